/- The walks of barrowref17.Table's methods. Conditions: a book of at most 2 to the 47 bytes. -/
import Derived.Test.YtmooogahfkgljaaT
import Derived.Test.YtmooogahfkgljaaWkAcks4
set_option linter.unusedVariables false
set_option linter.unusedSimpArgs false
namespace Go.Proofs.Ytmooogahfkgljaa.Wk
open Go Go.RowKit Go.Proofs.Ytmooogahfkgljaa Go.Proofs.Ytmooogahfkgljaa.K
def encT (p : Int × Int) : List Value := [.int .i64 p.1, .int .i64 p.2]
theorem told_at {bk : List (Int × Int)} {i : Nat} {t : Int × Int} (h : bk[i]? = some t) : ∀ j u, (encT t)[j]? = some u → (bk.flatMap encT)[i * 2 + j]? = some u :=
  flat_at encT 2 (fun _ => rfl) bk _ t h
def numB (bk : List (Int × Int)) (p : Int) : Int := bk.foldl (fun n x => if x.1 = p ∧ n < x.2 then x.2 else n) 0
theorem numB_snoc (l : List (Int × Int)) (x : Int × Int) (p : Int) : numB (l ++ [x]) p = if x.1 = p ∧ numB l p < x.2 then x.2 else numB l p := by
  unfold numB
  rw [List.foldl_append]
  rfl
def allF (n : Nat) (s : Int) (bk : List (Int × Int)) : List Int := (List.range n).map fun q : Nat => if (q : Int) = s then 0 else numB bk q
theorem allF_len (n : Nat) (s : Int) (bk : List (Int × Int)) : (allF n s bk).length = n := by simp [allF]
theorem allF_succ (n : Nat) (s : Int) (bk : List (Int × Int)) : allF (n + 1) s bk = allF n s bk ++ [if (n : Int) = s then 0 else numB bk n] := by simp [allF, List.range_succ]
def othersF (n : Nat) (s : Int) (bk : List (Int × Int)) : List Int := ((List.range n).filter fun q : Nat => decide ((q : Int) ≠ s)).map fun q : Nat => numB bk q
theorem othersF_succ (n : Nat) (s : Int) (bk : List (Int × Int)) : othersF (n + 1) s bk = if (n : Int) = s then othersF n s bk else othersF n s bk ++ [numB bk n] := by
  unfold othersF
  rw [List.range_succ, List.filter_append]
  by_cases h : (n : Int) = s <;> simp [List.filter_cons, h]
theorem minL_app (l : List Int) (x : Int) : minL (l ++ [x]) = if l.length = 0 then x else min (minL l) x := by
  by_cases h : l.length = 0
  · rw [List.eq_nil_of_length_eq_zero h]; rfl
  · rw [if_neg h, minL_snoc (fun h' => h (by rw [h']; rfl))]
set_option maxRecDepth 100000 in
set_option maxHeartbeats 1000000 in
theorem Peer_calls (W : World) (r s : Int) (BA : Option Addr) (bc : Nat) (bk : List (Int × Int)) (p : Int) (hR : Rd W 2 (.slice BA bk.length bc) bk.length (bk.flatMap encT)) (hb : bk.length ≤ 140737488355328) : Calls Try.prog 80 #[.agg #[.int .i64 r, .int .i64 s, .slice BA bk.length bc], .int .i64 p] W fun e w' => e = .returned (.int .i64 (chkF r s p)) ∧ Sat W w' [] := by
  refine enter Try.func80 rfl rfl rfl (.cons (i := 0) rfl (.cons (i := 1) rfl .nil)) ?_
  intro a hA
  have hS := Sat.start W
  refine wp_seq_k fun k1 hk1 => ?_
  refine wp_region_lit ?_
  refine goB hA rfl rfl hS ?_
  clear hA a hS; intro b2 w hS a hA
  refine go1 hA rfl rfl rfl (r_assign (hA.ev rfl)) ?_; clear hA a; intro a hA
  refine wpList_nil ?_
  refine hk1 _ _ ?_
  clear hk1 k1
  replace hA := hA.keep (.cons (i := 1) rfl (.cons (i := 2) rfl (.cons (i := 4) rfl .nil)))
  refine wp_seq_k fun k2 hk2 => ?_
  refine wp_seq_k fun k3 hk3 => ?_
  refine wp_region_lit ?_
  refine go1 hA rfl rfl rfl (r_move (hA.ev rfl)) ?_; clear hA a; intro a hA
  refine go1s hA rfl rfl rfl (r_lss (hA.ev rfl) (hA.ev rfl)) ?_ ?_
  · clear hA a; intro h6 a hA
    try (first | contradiction | (exfalso; omega) | (exfalso; simp at h6; done))
    all_goals
     skip
     refine go1 hA rfl rfl rfl (r_move (hA.ev rfl)) ?_; clear hA a; intro a hA
     refine goS hA (wanted_no hA rfl rfl rfl rfl) rfl rfl ?_; clear hA a; intro a hA
     refine goS hA (wanted_no hA rfl rfl rfl rfl) rfl rfl ?_; clear hA a; intro a hA
     refine goS hA (wanted_no hA rfl rfl rfl rfl) rfl rfl ?_; clear hA a; intro a hA
     refine goS hA (wanted_no hA rfl rfl rfl rfl) rfl rfl ?_; clear hA a; intro a hA
     refine go1 hA rfl rfl rfl (r_pick_t (hA.ev rfl) (hA.ev rfl)) ?_; clear hA a; intro a hA
     refine wpList_nil ?_
     refine hk3 _ _ ?_
     clear hk3 k3
     replace hA := hA.keep (.cons (i := 1) rfl (.cons (i := 2) rfl (.cons (i := 4) rfl (.cons (i := 12) rfl .nil))))
     refine wp_cond_true (hA.ev rfl) ?_
     refine wp_seq_k fun k4 hk4 => ?_
     refine wp_region_lit ?_
     refine go1 hA rfl rfl rfl (r_assign (hA.ev rfl)) ?_; clear hA a; intro a hA
     refine wpList_nil ?_
     refine hk4 _ _ ?_
     clear hk4 k4
     replace hA := hA.keep (.cons (i := 1) rfl (.cons (i := 2) rfl (.cons (i := 4) rfl .nil)))
     refine wp_ret ?_
     refine then_ret ?_; clear hk2 k2
     refine end1 hA rfl rfl ?_
     exact ⟨ret_i (by unfold chkF; (repeat' split) <;> omega), hS.nil⟩
  · clear hA a; intro h6 a hA
    try (first | contradiction | (exfalso; omega) | (exfalso; simp at h6; done))
    all_goals
     skip
     refine go1 hA rfl rfl rfl (r_move (hA.ev rfl)) ?_; clear hA a; intro a hA
     refine go1y hA (wanted_yes hA rfl rfl rfl) rfl rfl (r_move (hA.ev rfl)) ?_; clear hA a; intro a hA
     refine go1y hA (wanted_yes hA rfl rfl rfl) rfl rfl (r_field (hA.ev rfl) T.fo70_0) ?_; clear hA a; intro a hA
     refine go1y hA (wanted_yes hA rfl rfl rfl) rfl rfl (r_load (hA.ev rfl) T.fl3 (by first | exact hS.cell rfl)) ?_; clear hA a; intro a hA
     refine go1sy hA (wanted_yes hA rfl rfl rfl) rfl rfl (r_geq (hA.ev rfl) (hA.ev rfl)) ?_ ?_
     · clear hA a; intro h11 a hA
       try (first | contradiction | (exfalso; omega) | (exfalso; simp at h11; done))
       all_goals
        skip
        refine go1 hA rfl rfl rfl (r_pick_f (hA.ev rfl) (hA.ev rfl)) ?_; clear hA a; intro a hA
        refine wpList_nil ?_
        refine hk3 _ _ ?_
        clear hk3 k3
        replace hA := hA.keep (.cons (i := 1) rfl (.cons (i := 2) rfl (.cons (i := 4) rfl (.cons (i := 12) rfl .nil))))
        refine wp_cond_true (hA.ev rfl) ?_
        refine wp_seq_k fun k5 hk5 => ?_
        refine wp_region_lit ?_
        refine go1 hA rfl rfl rfl (r_assign (hA.ev rfl)) ?_; clear hA a; intro a hA
        refine wpList_nil ?_
        refine hk5 _ _ ?_
        clear hk5 k5
        replace hA := hA.keep (.cons (i := 1) rfl (.cons (i := 2) rfl (.cons (i := 4) rfl .nil)))
        refine wp_ret ?_
        refine then_ret ?_; clear hk2 k2
        refine end1 hA rfl rfl ?_
        exact ⟨ret_i (by unfold chkF; (repeat' split) <;> omega), hS.nil⟩
     · clear hA a; intro h11 a hA
       try (first | contradiction | (exfalso; omega) | (exfalso; simp at h11; done))
       all_goals
        skip
        refine go1 hA rfl rfl rfl (r_pick_f (hA.ev rfl) (hA.ev rfl)) ?_; clear hA a; intro a hA
        refine wpList_nil ?_
        refine hk3 _ _ ?_
        clear hk3 k3
        replace hA := hA.keep (.cons (i := 1) rfl (.cons (i := 2) rfl (.cons (i := 4) rfl (.cons (i := 12) rfl .nil))))
        refine wp_cond_false (hA.ev rfl) ?_
        refine wp_skip ?_
        refine hk2 _ _ ?_
        clear hk2 k2
        replace hA := hA.keep (.cons (i := 1) rfl (.cons (i := 2) rfl (.cons (i := 4) rfl .nil)))
        refine wp_seq_k fun k6 hk6 => ?_
        refine wp_seq_k fun k7 hk7 => ?_
        refine wp_region_lit ?_
        refine go1 hA rfl rfl rfl (r_move (hA.ev rfl)) ?_; clear hA a; intro a hA
        refine go1 hA rfl rfl rfl (r_field (hA.ev rfl) T.fo70_1) ?_; clear hA a; intro a hA
        refine go1 hA rfl rfl rfl (r_load (hA.ev rfl) T.fl3 (by first | exact hS.cell rfl)) ?_; clear hA a; intro a hA
        refine go1s hA rfl rfl rfl (r_eql (hA.ev rfl) (hA.ev rfl)) ?_ ?_
        · clear hA a; intro h16 a hA
          try (first | contradiction | (exfalso; omega) | (exfalso; simp at h16; done))
          all_goals
           skip
           refine wpList_nil ?_
           refine hk7 _ _ ?_
           clear hk7 k7
           replace hA := hA.keep (.cons (i := 4) rfl (.cons (i := 16) rfl .nil))
           refine wp_cond_true (hA.ev rfl) ?_
           refine wp_seq_k fun k8 hk8 => ?_
           refine wp_region_lit ?_
           refine go1 hA rfl rfl rfl (r_assign (hA.ev rfl)) ?_; clear hA a; intro a hA
           refine wpList_nil ?_
           refine hk8 _ _ ?_
           clear hk8 k8
           replace hA := hA.keep (.cons (i := 4) rfl .nil)
           refine wp_ret ?_
           refine then_ret ?_; clear hk6 k6
           refine end1 hA rfl rfl ?_
           exact ⟨ret_i (by unfold chkF; (repeat' split) <;> omega), hS.nil⟩
        · clear hA a; intro h16 a hA
          try (first | contradiction | (exfalso; omega) | (exfalso; simp at h16; done))
          all_goals
           skip
           refine wpList_nil ?_
           refine hk7 _ _ ?_
           clear hk7 k7
           replace hA := hA.keep (.cons (i := 4) rfl (.cons (i := 16) rfl .nil))
           refine wp_cond_false (hA.ev rfl) ?_
           refine wp_skip ?_
           refine hk6 _ _ ?_
           clear hk6 k6
           replace hA := hA.keep (.cons (i := 4) rfl .nil)
           refine wp_seq_k fun k9 hk9 => ?_
           refine wp_region_lit ?_
           refine go1 hA rfl rfl rfl (r_assign (hA.ev rfl)) ?_; clear hA a; intro a hA
           refine wpList_nil ?_
           refine hk9 _ _ ?_
           clear hk9 k9
           refine wp_ret ?_
           refine end1 hA rfl rfl ?_
           exact ⟨ret_i (by unfold chkF; (repeat' split) <;> omega), hS.nil⟩
set_option maxRecDepth 100000 in
set_option maxHeartbeats 1000000 in
theorem Number_calls (W : World) (r s : Int) (BA : Option Addr) (bc : Nat) (bk : List (Int × Int)) (p : Int) (hR : Rd W 2 (.slice BA bk.length bc) bk.length (bk.flatMap encT)) (hb : bk.length ≤ 140737488355328) : Calls Try.prog 79 #[.agg #[.int .i64 r, .int .i64 s, .slice BA bk.length bc], .int .i64 p] W fun e w' => e = .returned (.int .i64 (numB bk p)) ∧ Sat W w' [] := by
  refine enter Try.func79 rfl rfl rfl (.cons (i := 0) rfl (.cons (i := 1) rfl .nil)) ?_
  intro a hA
  have hS := Sat.start W
  refine wp_seq_k fun k1 hk1 => ?_
  refine wp_region_lit ?_
  refine goB hA rfl rfl hS ?_
  clear hA a hS; intro b2 w hS a hA
  refine go1 hA rfl rfl rfl (r_assign (hA.ev rfl)) ?_; clear hA a; intro a hA
  refine wpList_nil ?_
  refine hk1 _ _ ?_
  clear hk1 k1
  replace hA := hA.keep (.cons (i := 1) rfl (.cons (i := 2) rfl (.cons (i := 4) rfl .nil)))
  refine wp_seq_k fun k2 hk2 => ?_
  refine wp_region_lit ?_
  refine go1 hA rfl rfl rfl (r_assign (hA.ev rfl)) ?_; clear hA a; intro a hA
  refine wpList_nil ?_
  refine hk2 _ _ ?_
  clear hk2 k2
  refine wp_seq_k fun k3 hk3 => ?_
  refine wp_seq_k fun k4 hk4 => ?_
  refine wp_region_lit ?_
  refine go1 hA rfl rfl rfl (r_assign (hA.ev rfl)) ?_; clear hA a; intro a hA
  refine wpList_nil ?_
  refine hk4 _ _ ?_
  clear hk4 k4
  refine wp_block ?_
  refine wp_loop_ghost (fun (mm : Nat) a w => ∃ (n i : Int), Ag a 39 [(1, .int .i64 p), (2, .pointer (some ⟨b2, 0, none⟩)), (5, .int .i64 n), (6, .int .i64 i)] ∧ Sat W w ([pto b2 (.cells #[.int .i64 r, .int .i64 s, .slice BA bk.length bc] 70)]) ∧ (0 ≤ i) ∧ (i ≤ bk.length) ∧ (n = numB (bk.take i.toNat) p) ∧ mm = (bk.length - i).toNat) bk.length ?_ ?_
  · replace hA := hA.keep (.cons (i := 1) rfl (.cons (i := 2) rfl (.cons (i := 5) rfl (.cons (i := 6) rfl .nil))))
    exact ⟨_, _, hA, hS, (by omega), (by omega), (by rfl), by omega⟩
  intro m a w hI
  clear hS hA; obtain ⟨n, i, hA, hS, hi0, hi1, hn, rfl⟩ := hI
  refine wp_seq_k fun k5 hk5 => ?_
  refine wp_seq_k fun k6 hk6 => ?_
  refine wp_region_lit ?_
  refine go1 hA rfl rfl rfl (r_move (hA.ev rfl)) ?_; clear hA a; intro a hA
  refine go1 hA rfl rfl rfl (r_field (hA.ev rfl) T.fo70_2) ?_; clear hA a; intro a hA
  refine go1 hA rfl rfl rfl (r_load (hA.ev rfl) T.fl68 (by first | exact hS.cell rfl)) ?_; clear hA a; intro a hA
  refine go1 hA rfl rfl rfl (r_lens (hA.ev rfl) T.un68) ?_; clear hA a; intro a hA
  refine go1s hA rfl rfl rfl (r_lss (hA.ev rfl) (hA.ev rfl)) ?_ ?_
  · clear hA a; intro h11 a hA
    try (first | contradiction | (exfalso; omega) | (exfalso; simp at h11; done))
    all_goals
     skip
     refine wpList_nil ?_
     refine hk6 _ _ ?_
     clear hk6 k6
     refine wp_cond_true (hA.ev rfl) ?_
     refine wp_skip ?_
     refine hk5 _ _ ?_
     clear hk5 k5
     refine wp_seq_k fun k7 hk7 => ?_
     refine wp_block ?_
     refine wp_seq_k fun k8 hk8 => ?_
     refine wp_region_lit ?_
     refine go1 hA rfl rfl rfl (r_field (hA.ev rfl) T.fo70_2) ?_; clear hA a; intro a hA
     refine go1 hA rfl rfl rfl (r_load (hA.ev rfl) T.fl68 (by first | exact hS.cell rfl)) ?_; clear hA a; intro a hA
     refine go1 hA rfl rfl rfl (r_move (hA.ev rfl)) ?_; clear hA a; intro a hA
     obtain ⟨BA_p, rfl⟩ : ∃ q, BA = some q := (hR.sat hS).hasAddr (by omega)
     obtain ⟨t, ht⟩ : ∃ x, bk[i.toNat]? = some x := ⟨_, List.getElem?_eq_getElem (by omega)⟩
     refine go1 hA rfl rfl rfl (r_index (hA.ev rfl) (hA.ev rfl) T.un68 T.sz91 (by omega) (by omega)) ?_; clear hA a; intro a hA
     refine go1 hA rfl rfl rfl (r_fieldP (hA.ev rfl) T.fo91_0) ?_; clear hA a; intro a hA
     refine go1 hA rfl rfl rfl (r_load (hA.ev rfl) T.fl3 (rdl2 (hR.sat hS) (told_at ht 0 _ rfl))) ?_; clear hA a; intro a hA
     refine go1 hA rfl rfl rfl (r_move (hA.ev rfl)) ?_; clear hA a; intro a hA
     refine go1s hA rfl rfl rfl (r_eql (hA.ev rfl) (hA.ev rfl)) ?_ ?_
     · clear hA a; intro h21 a hA
       try (first | contradiction | (exfalso; omega) | (exfalso; simp at h21; done))
       all_goals
        skip
        refine go1 hA rfl rfl rfl (r_move (hA.ev rfl)) ?_; clear hA a; intro a hA
        refine go1y hA (wanted_yes hA rfl rfl rfl) rfl rfl (r_field (hA.ev rfl) T.fo70_2) ?_; clear hA a; intro a hA
        refine go1y hA (wanted_yes hA rfl rfl rfl) rfl rfl (r_load (hA.ev rfl) T.fl68 (by first | exact hS.cell rfl)) ?_; clear hA a; intro a hA
        refine go1y hA (wanted_yes hA rfl rfl rfl) rfl rfl (r_move (hA.ev rfl)) ?_; clear hA a; intro a hA
        refine go1y hA (wanted_yes hA rfl rfl rfl) rfl rfl (r_index (hA.ev rfl) (hA.ev rfl) T.un68 T.sz91 (by omega) (by omega)) ?_; clear hA a; intro a hA
        refine go1y hA (wanted_yes hA rfl rfl rfl) rfl rfl (r_fieldP (hA.ev rfl) T.fo91_1) ?_; clear hA a; intro a hA
        refine go1y hA (wanted_yes hA rfl rfl rfl) rfl rfl (r_load (hA.ev rfl) T.fl3 (rdl2 (hR.sat hS) (told_at ht 1 _ rfl))) ?_; clear hA a; intro a hA
        refine go1y hA (wanted_yes hA rfl rfl rfl) rfl rfl (r_move (hA.ev rfl)) ?_; clear hA a; intro a hA
        refine go1sy hA (wanted_yes hA rfl rfl rfl) rfl rfl (r_gtr (hA.ev rfl) (hA.ev rfl)) ?_ ?_
        · clear hA a; intro h30 a hA
          try (first | contradiction | (exfalso; omega) | (exfalso; simp at h30; done))
          all_goals
           skip
           refine go1 hA rfl rfl rfl (r_pick_t (hA.ev rfl) (hA.ev rfl)) ?_; clear hA a; intro a hA
           refine wpList_nil ?_
           refine hk8 _ _ ?_
           clear hk8 k8
           refine wp_cond_true (hA.ev rfl) ?_
           refine wp_region_lit ?_
           refine go1 hA rfl rfl rfl (r_field (hA.ev rfl) T.fo70_2) ?_; clear hA a; intro a hA
           refine go1 hA rfl rfl rfl (r_load (hA.ev rfl) T.fl68 (by first | exact hS.cell rfl)) ?_; clear hA a; intro a hA
           refine go1 hA rfl rfl rfl (r_move (hA.ev rfl)) ?_; clear hA a; intro a hA
           refine go1 hA rfl rfl rfl (r_index (hA.ev rfl) (hA.ev rfl) T.un68 T.sz91 (by omega) (by omega)) ?_; clear hA a; intro a hA
           refine go1 hA rfl rfl rfl (r_fieldP (hA.ev rfl) T.fo91_1) ?_; clear hA a; intro a hA
           refine go1 hA rfl rfl rfl (r_load (hA.ev rfl) T.fl3 (rdl2 (hR.sat hS) (told_at ht 1 _ rfl))) ?_; clear hA a; intro a hA
           refine go1 hA rfl rfl rfl (r_assign (hA.ev rfl)) ?_; clear hA a; intro a hA
           refine wpList_nil ?_
           refine block_normal ?_
           refine hk7 _ _ ?_
           clear hk7 k7
           refine wp_region_lit ?_
           refine go1 hA rfl rfl rfl (r_move (hA.ev rfl)) ?_; clear hA a; intro a hA
           refine go1 hA rfl rfl rfl (r_add64 (hA.ev rfl) (hA.ev rfl) (by omega) (by omega)) ?_; clear hA a; intro a hA
           refine go1 hA rfl rfl rfl (r_assign (hA.ev rfl)) ?_; clear hA a; intro a hA
           refine wpList_nil ?_
           replace hA := hA.keep (.cons (i := 1) rfl (.cons (i := 2) rfl (.cons (i := 5) rfl (.cons (i := 6) rfl .nil))))
           refine ⟨_, ?_, _, _, hA, hS, (by omega), (by omega), (by rw [show (i + 1).toNat = i.toNat + 1 from by omega, take_snoc ht, numB_snoc, ← hn]; first | rw [if_pos (by omega)] | rw [if_neg (by omega)]), rfl⟩
           omega
        · clear hA a; intro h30 a hA
          try (first | contradiction | (exfalso; omega) | (exfalso; simp at h30; done))
          all_goals
           skip
           refine go1 hA rfl rfl rfl (r_pick_t (hA.ev rfl) (hA.ev rfl)) ?_; clear hA a; intro a hA
           refine wpList_nil ?_
           refine hk8 _ _ ?_
           clear hk8 k8
           refine wp_cond_false (hA.ev rfl) ?_
           refine wp_skip ?_
           refine block_normal ?_
           refine hk7 _ _ ?_
           clear hk7 k7
           refine wp_region_lit ?_
           refine go1 hA rfl rfl rfl (r_move (hA.ev rfl)) ?_; clear hA a; intro a hA
           refine go1 hA rfl rfl rfl (r_add64 (hA.ev rfl) (hA.ev rfl) (by omega) (by omega)) ?_; clear hA a; intro a hA
           refine go1 hA rfl rfl rfl (r_assign (hA.ev rfl)) ?_; clear hA a; intro a hA
           refine wpList_nil ?_
           replace hA := hA.keep (.cons (i := 1) rfl (.cons (i := 2) rfl (.cons (i := 5) rfl (.cons (i := 6) rfl .nil))))
           refine ⟨_, ?_, _, _, hA, hS, (by omega), (by omega), (by rw [show (i + 1).toNat = i.toNat + 1 from by omega, take_snoc ht, numB_snoc, ← hn]; first | rw [if_pos (by omega)] | rw [if_neg (by omega)]), rfl⟩
           omega
     · clear hA a; intro h21 a hA
       try (first | contradiction | (exfalso; omega) | (exfalso; simp at h21; done))
       all_goals
        skip
        refine go1 hA rfl rfl rfl (r_move (hA.ev rfl)) ?_; clear hA a; intro a hA
        refine goS hA (wanted_no hA rfl rfl rfl rfl) rfl rfl ?_; clear hA a; intro a hA
        refine goS hA (wanted_no hA rfl rfl rfl rfl) rfl rfl ?_; clear hA a; intro a hA
        refine goS hA (wanted_no hA rfl rfl rfl rfl) rfl rfl ?_; clear hA a; intro a hA
        refine goS hA (wanted_no hA rfl rfl rfl rfl) rfl rfl ?_; clear hA a; intro a hA
        refine goS hA (wanted_no hA rfl rfl rfl rfl) rfl rfl ?_; clear hA a; intro a hA
        refine goS hA (wanted_no hA rfl rfl rfl rfl) rfl rfl ?_; clear hA a; intro a hA
        refine goS hA (wanted_no hA rfl rfl rfl rfl) rfl rfl ?_; clear hA a; intro a hA
        refine goS hA (wanted_no hA rfl rfl rfl rfl) rfl rfl ?_; clear hA a; intro a hA
        refine go1 hA rfl rfl rfl (r_pick_f (hA.ev rfl) (hA.ev rfl)) ?_; clear hA a; intro a hA
        refine wpList_nil ?_
        refine hk8 _ _ ?_
        clear hk8 k8
        refine wp_cond_false (hA.ev rfl) ?_
        refine wp_skip ?_
        refine block_normal ?_
        refine hk7 _ _ ?_
        clear hk7 k7
        refine wp_region_lit ?_
        refine go1 hA rfl rfl rfl (r_move (hA.ev rfl)) ?_; clear hA a; intro a hA
        refine go1 hA rfl rfl rfl (r_add64 (hA.ev rfl) (hA.ev rfl) (by omega) (by omega)) ?_; clear hA a; intro a hA
        refine go1 hA rfl rfl rfl (r_assign (hA.ev rfl)) ?_; clear hA a; intro a hA
        refine wpList_nil ?_
        replace hA := hA.keep (.cons (i := 1) rfl (.cons (i := 2) rfl (.cons (i := 5) rfl (.cons (i := 6) rfl .nil))))
        refine ⟨_, ?_, _, _, hA, hS, (by omega), (by omega), (by rw [show (i + 1).toNat = i.toNat + 1 from by omega, take_snoc ht, numB_snoc, ← hn]; first | rw [if_pos (by omega)] | rw [if_neg (by omega)]), rfl⟩
        omega
  · clear hA a; intro h11 a hA
    try (first | contradiction | (exfalso; omega) | (exfalso; simp at h11; done))
    all_goals
     skip
     refine wpList_nil ?_
     refine hk6 _ _ ?_
     clear hk6 k6
     refine wp_cond_false (hA.ev rfl) ?_
     refine wp_exit ?_
     refine then_exit ?_; clear hk5 k5
     refine then_exit ?_
     refine block_hit ?_
     refine hk3 _ _ ?_
     clear hk3 k3
     replace hA := hA.keep (.cons (i := 5) rfl .nil)
     refine wp_seq_k fun k9 hk9 => ?_
     refine wp_region_lit ?_
     refine go1 hA rfl rfl rfl (r_move (hA.ev rfl)) ?_; clear hA a; intro a hA
     refine go1 hA rfl rfl rfl (r_assign (hA.ev rfl)) ?_; clear hA a; intro a hA
     refine wpList_nil ?_
     refine hk9 _ _ ?_
     clear hk9 k9
     replace hA := hA.keep (.cons (i := 4) rfl .nil)
     refine wp_ret ?_
     refine end1 hA rfl rfl ?_
     rw [List.take_of_length_le (by omega)] at hn; subst hn; exact ⟨rfl, hS.nil⟩
set_option maxRecDepth 100000 in
set_option maxHeartbeats 1000000 in
theorem RefHeard_calls (W : World) (r s : Int) (BA : Option Addr) (bc : Nat) (bk : List (Int × Int)) (p hi : Int) (hR : Rd W 2 (.slice BA bk.length bc) bk.length (bk.flatMap encT)) (hb : bk.length ≤ 140737488355328) : Calls Try.prog 75 #[.agg #[.int .i64 r, .int .i64 s, .slice BA bk.length bc], .int .i64 p, .int .i64 hi] W fun e w' => e = .returned (.int .i64 (heardF r s p hi)) ∧ Sat W w' [] := by
  refine enter Try.func75 rfl rfl rfl (.cons (i := 0) rfl (.cons (i := 1) rfl (.cons (i := 2) rfl .nil))) ?_
  intro a hA
  have hS := Sat.start W
  refine wp_seq_k fun k1 hk1 => ?_
  refine wp_region_lit ?_
  refine goB hA rfl rfl hS ?_
  clear hA a hS; intro b3 w hS a hA
  refine go1 hA rfl rfl rfl (r_assign (hA.ev rfl)) ?_; clear hA a; intro a hA
  refine wpList_nil ?_
  refine hk1 _ _ ?_
  clear hk1 k1
  replace hA := hA.keep (.cons (i := 1) rfl (.cons (i := 2) rfl (.cons (i := 3) rfl (.cons (i := 6) rfl .nil))))
  refine wp_seq_k fun k2 hk2 => ?_
  refine wp_region_lit ?_
  refine go1 hA rfl rfl rfl (r_loadS (cs := [_, _, _]) (hA.ev rfl) T.ag70 T.sz70 (by first | exact hS.cellsAt (xs := [_, _, _]) rfl)) ?_; clear hA a; intro a hA
  refine go1 hA rfl rfl rfl (r_move (hA.ev rfl)) ?_; clear hA a; intro a hA
  refine goF hA rfl T.en80 rfl (Peer_calls w r s BA bc bk p (hR.sat hS) hb) ?_
  clear hA a; rintro e w ⟨rfl, hT⟩; replace hS : Sat _ _ _ := hS.rebase hT; clear hT; have hck := chkF_cases r s p
  refine ⟨_, rfl, ?_⟩; intro a hA
  refine go1 hA rfl rfl rfl (r_assign (hA.ev rfl)) ?_; clear hA a; intro a hA
  refine wpList_nil ?_
  refine hk2 _ _ ?_
  clear hk2 k2
  replace hA := hA.keep (.cons (i := 2) rfl (.cons (i := 6) rfl (.cons (i := 7) rfl .nil)))
  refine wp_seq_k fun k3 hk3 => ?_
  refine wp_seq_k fun k4 hk4 => ?_
  refine wp_region_lit ?_
  refine go1 hA rfl rfl rfl (r_move (hA.ev rfl)) ?_; clear hA a; intro a hA
  refine go1s hA rfl rfl rfl (r_neq (hA.ev rfl) (hA.ev rfl)) ?_ ?_
  · clear hA a; intro h12 a hA
    try (first | contradiction | (exfalso; omega) | (exfalso; simp at h12; done))
    all_goals
     skip
     refine wpList_nil ?_
     refine hk4 _ _ ?_
     clear hk4 k4
     replace hA := hA.keep (.cons (i := 2) rfl (.cons (i := 6) rfl (.cons (i := 7) rfl (.cons (i := 12) rfl .nil))))
     refine wp_cond_true (hA.ev rfl) ?_
     refine wp_seq_k fun k5 hk5 => ?_
     refine wp_region_lit ?_
     refine go1 hA rfl rfl rfl (r_move (hA.ev rfl)) ?_; clear hA a; intro a hA
     refine go1 hA rfl rfl rfl (r_assign (hA.ev rfl)) ?_; clear hA a; intro a hA
     refine wpList_nil ?_
     refine hk5 _ _ ?_
     clear hk5 k5
     replace hA := hA.keep (.cons (i := 2) rfl (.cons (i := 6) rfl .nil))
     refine wp_ret ?_
     refine then_ret ?_; clear hk3 k3
     refine end1 hA rfl rfl ?_
     exact ⟨ret_i (by have := heardF_cases r s p hi; omega), hS.nil⟩
  · clear hA a; intro h12 a hA
    try (first | contradiction | (exfalso; omega) | (exfalso; simp at h12; done))
    all_goals
     skip
     refine wpList_nil ?_
     refine hk4 _ _ ?_
     clear hk4 k4
     replace hA := hA.keep (.cons (i := 2) rfl (.cons (i := 6) rfl (.cons (i := 7) rfl (.cons (i := 12) rfl .nil))))
     refine wp_cond_false (hA.ev rfl) ?_
     refine wp_skip ?_
     refine hk3 _ _ ?_
     clear hk3 k3
     replace hA := hA.keep (.cons (i := 2) rfl (.cons (i := 6) rfl .nil))
     refine wp_seq_k fun k6 hk6 => ?_
     refine wp_seq_k fun k7 hk7 => ?_
     refine wp_region_lit ?_
     refine go1 hA rfl rfl rfl (r_move (hA.ev rfl)) ?_; clear hA a; intro a hA
     refine go1s hA rfl rfl rfl (r_lss (hA.ev rfl) (hA.ev rfl)) ?_ ?_
     · clear hA a; intro h15 a hA
       try (first | contradiction | (exfalso; omega) | (exfalso; simp at h15; done))
       all_goals
        skip
        refine go1 hA rfl rfl rfl (r_move (hA.ev rfl)) ?_; clear hA a; intro a hA
        refine goS hA (wanted_no hA rfl rfl rfl rfl) rfl rfl ?_; clear hA a; intro a hA
        refine goS hA (wanted_no hA rfl rfl rfl rfl) rfl rfl ?_; clear hA a; intro a hA
        refine go1 hA rfl rfl rfl (r_pick_t (hA.ev rfl) (hA.ev rfl)) ?_; clear hA a; intro a hA
        refine wpList_nil ?_
        refine hk7 _ _ ?_
        clear hk7 k7
        replace hA := hA.keep (.cons (i := 6) rfl (.cons (i := 19) rfl .nil))
        refine wp_cond_true (hA.ev rfl) ?_
        refine wp_seq_k fun k8 hk8 => ?_
        refine wp_region_lit ?_
        refine go1 hA rfl rfl rfl (r_assign (hA.ev rfl)) ?_; clear hA a; intro a hA
        refine wpList_nil ?_
        refine hk8 _ _ ?_
        clear hk8 k8
        replace hA := hA.keep (.cons (i := 6) rfl .nil)
        refine wp_ret ?_
        refine then_ret ?_; clear hk6 k6
        refine end1 hA rfl rfl ?_
        exact ⟨ret_i (by have := heardF_cases r s p hi; omega), hS.nil⟩
     · clear hA a; intro h15 a hA
       try (first | contradiction | (exfalso; omega) | (exfalso; simp at h15; done))
       all_goals
        skip
        refine go1 hA rfl rfl rfl (r_move (hA.ev rfl)) ?_; clear hA a; intro a hA
        refine go1y hA (wanted_yes hA rfl rfl rfl) rfl rfl (r_move (hA.ev rfl)) ?_; clear hA a; intro a hA
        refine go1sy hA (wanted_yes hA rfl rfl rfl) rfl rfl (r_gtr (hA.ev rfl) (hA.ev rfl)) ?_ ?_
        · clear hA a; intro h18 a hA
          try (first | contradiction | (exfalso; omega) | (exfalso; simp at h18; done))
          all_goals
           skip
           refine go1 hA rfl rfl rfl (r_pick_f (hA.ev rfl) (hA.ev rfl)) ?_; clear hA a; intro a hA
           refine wpList_nil ?_
           refine hk7 _ _ ?_
           clear hk7 k7
           replace hA := hA.keep (.cons (i := 6) rfl (.cons (i := 19) rfl .nil))
           refine wp_cond_true (hA.ev rfl) ?_
           refine wp_seq_k fun k9 hk9 => ?_
           refine wp_region_lit ?_
           refine go1 hA rfl rfl rfl (r_assign (hA.ev rfl)) ?_; clear hA a; intro a hA
           refine wpList_nil ?_
           refine hk9 _ _ ?_
           clear hk9 k9
           replace hA := hA.keep (.cons (i := 6) rfl .nil)
           refine wp_ret ?_
           refine then_ret ?_; clear hk6 k6
           refine end1 hA rfl rfl ?_
           exact ⟨ret_i (by have := heardF_cases r s p hi; omega), hS.nil⟩
        · clear hA a; intro h18 a hA
          try (first | contradiction | (exfalso; omega) | (exfalso; simp at h18; done))
          all_goals
           skip
           refine go1 hA rfl rfl rfl (r_pick_f (hA.ev rfl) (hA.ev rfl)) ?_; clear hA a; intro a hA
           refine wpList_nil ?_
           refine hk7 _ _ ?_
           clear hk7 k7
           replace hA := hA.keep (.cons (i := 6) rfl (.cons (i := 19) rfl .nil))
           refine wp_cond_false (hA.ev rfl) ?_
           refine wp_skip ?_
           refine hk6 _ _ ?_
           clear hk6 k6
           replace hA := hA.keep (.cons (i := 6) rfl .nil)
           refine wp_seq_k fun k10 hk10 => ?_
           refine wp_region_lit ?_
           refine go1 hA rfl rfl rfl (r_assign (hA.ev rfl)) ?_; clear hA a; intro a hA
           refine wpList_nil ?_
           refine hk10 _ _ ?_
           clear hk10 k10
           refine wp_ret ?_
           refine end1 hA rfl rfl ?_
           exact ⟨ret_i (by have := heardF_cases r s p hi; omega), hS.nil⟩
set_option maxRecDepth 100000 in
set_option maxHeartbeats 1000000 in
theorem RefOf_calls (W : World) (r s : Int) (BA : Option Addr) (bc : Nat) (bk : List (Int × Int)) (p : Int) (hR : Rd W 2 (.slice BA bk.length bc) bk.length (bk.flatMap encT)) (hb : bk.length ≤ 140737488355328) : Calls Try.prog 76 #[.agg #[.int .i64 r, .int .i64 s, .slice BA bk.length bc], .int .i64 p] W fun e w' => e = .returned (.tuple #[.int .i64 (if chkF r s p = 0 then numB bk p else 0), .int .i64 (chkF r s p)]) ∧ Sat W w' [] := by
  refine enter Try.func76 rfl rfl rfl (.cons (i := 0) rfl (.cons (i := 1) rfl .nil)) ?_
  intro a hA
  have hS := Sat.start W
  refine wp_seq_k fun k1 hk1 => ?_
  refine wp_region_lit ?_
  refine goB hA rfl rfl hS ?_
  clear hA a hS; intro b2 w hS a hA
  refine go1 hA rfl rfl rfl (r_assign (hA.ev rfl)) ?_; clear hA a; intro a hA
  refine go1 hA rfl rfl rfl (r_assign (hA.ev rfl)) ?_; clear hA a; intro a hA
  refine wpList_nil ?_
  refine hk1 _ _ ?_
  clear hk1 k1
  replace hA := hA.keep (.cons (i := 1) rfl (.cons (i := 2) rfl (.cons (i := 4) rfl (.cons (i := 5) rfl .nil))))
  refine wp_seq_k fun k2 hk2 => ?_
  refine wp_region_lit ?_
  refine go1 hA rfl rfl rfl (r_loadS (cs := [_, _, _]) (hA.ev rfl) T.ag70 T.sz70 (by first | exact hS.cellsAt (xs := [_, _, _]) rfl)) ?_; clear hA a; intro a hA
  refine go1 hA rfl rfl rfl (r_move (hA.ev rfl)) ?_; clear hA a; intro a hA
  refine goF hA rfl T.en80 rfl (Peer_calls w r s BA bc bk p (hR.sat hS) hb) ?_
  clear hA a; rintro e w ⟨rfl, hT⟩; replace hS : Sat _ _ _ := hS.rebase hT; clear hT; have hck := chkF_cases r s p
  refine ⟨_, rfl, ?_⟩; intro a hA
  refine go1 hA rfl rfl rfl (r_assign (hA.ev rfl)) ?_; clear hA a; intro a hA
  refine wpList_nil ?_
  refine hk2 _ _ ?_
  clear hk2 k2
  replace hA := hA.keep (.cons (i := 1) rfl (.cons (i := 2) rfl (.cons (i := 4) rfl (.cons (i := 5) rfl (.cons (i := 6) rfl .nil)))))
  refine wp_seq_k fun k3 hk3 => ?_
  refine wp_seq_k fun k4 hk4 => ?_
  refine wp_region_lit ?_
  refine go1 hA rfl rfl rfl (r_move (hA.ev rfl)) ?_; clear hA a; intro a hA
  refine go1s hA rfl rfl rfl (r_neq (hA.ev rfl) (hA.ev rfl)) ?_ ?_
  · clear hA a; intro h11 a hA
    try (first | contradiction | (exfalso; omega) | (exfalso; simp at h11; done))
    all_goals
     skip
     refine wpList_nil ?_
     refine hk4 _ _ ?_
     clear hk4 k4
     replace hA := hA.keep (.cons (i := 1) rfl (.cons (i := 2) rfl (.cons (i := 4) rfl (.cons (i := 5) rfl (.cons (i := 6) rfl (.cons (i := 11) rfl .nil))))))
     refine wp_cond_true (hA.ev rfl) ?_
     refine wp_seq_k fun k5 hk5 => ?_
     refine wp_region_lit ?_
     refine go1 hA rfl rfl rfl (r_move (hA.ev rfl)) ?_; clear hA a; intro a hA
     refine go1 hA rfl rfl rfl (r_assign (hA.ev rfl)) ?_; clear hA a; intro a hA
     refine go1 hA rfl rfl rfl (r_assign (hA.ev rfl)) ?_; clear hA a; intro a hA
     refine wpList_nil ?_
     refine hk5 _ _ ?_
     clear hk5 k5
     replace hA := hA.keep (.cons (i := 1) rfl (.cons (i := 2) rfl (.cons (i := 4) rfl (.cons (i := 5) rfl .nil))))
     refine wp_ret ?_
     refine then_ret ?_; clear hk3 k3
     refine end2 hA rfl rfl rfl ?_
     first
       | (rw [if_neg (by omega)]; exact ⟨rfl, hS.nil⟩)
       | (rw [if_pos (by omega), show chkF r s p = 0 from by omega]; exact ⟨rfl, hS.nil⟩)
  · clear hA a; intro h11 a hA
    try (first | contradiction | (exfalso; omega) | (exfalso; simp at h11; done))
    all_goals
     skip
     refine wpList_nil ?_
     refine hk4 _ _ ?_
     clear hk4 k4
     replace hA := hA.keep (.cons (i := 1) rfl (.cons (i := 2) rfl (.cons (i := 4) rfl (.cons (i := 5) rfl (.cons (i := 6) rfl (.cons (i := 11) rfl .nil))))))
     refine wp_cond_false (hA.ev rfl) ?_
     refine wp_skip ?_
     refine hk3 _ _ ?_
     clear hk3 k3
     replace hA := hA.keep (.cons (i := 1) rfl (.cons (i := 2) rfl (.cons (i := 4) rfl (.cons (i := 5) rfl .nil))))
     refine wp_seq_k fun k6 hk6 => ?_
     refine wp_region_lit ?_
     refine go1 hA rfl rfl rfl (r_loadS (cs := [_, _, _]) (hA.ev rfl) T.ag70 T.sz70 (by first | exact hS.cellsAt (xs := [_, _, _]) rfl)) ?_; clear hA a; intro a hA
     refine go1 hA rfl rfl rfl (r_move (hA.ev rfl)) ?_; clear hA a; intro a hA
     refine goF hA rfl T.en79 rfl (Number_calls w r s BA bc bk p (hR.sat hS) hb) ?_
     clear hA a; rintro e w ⟨rfl, hT⟩; replace hS : Sat _ _ _ := hS.rebase hT; clear hT
     refine ⟨_, rfl, ?_⟩; intro a hA
     refine go1 hA rfl rfl rfl (r_assign (hA.ev rfl)) ?_; clear hA a; intro a hA
     refine go1 hA rfl rfl rfl (r_assign (hA.ev rfl)) ?_; clear hA a; intro a hA
     refine wpList_nil ?_
     refine hk6 _ _ ?_
     clear hk6 k6
     replace hA := hA.keep (.cons (i := 4) rfl (.cons (i := 5) rfl .nil))
     refine wp_ret ?_
     refine end2 hA rfl rfl rfl ?_
     first
       | (rw [if_neg (by omega)]; exact ⟨rfl, hS.nil⟩)
       | (rw [if_pos (by omega), show chkF r s p = 0 from by omega]; exact ⟨rfl, hS.nil⟩)
set_option maxRecDepth 100000 in
set_option maxHeartbeats 1000000 in
theorem RefPlan_calls (W : World) (r s : Int) (BA : Option Addr) (bc : Nat) (bk : List (Int × Int)) (p fi nx : Int) (hR : Rd W 2 (.slice BA bk.length bc) bk.length (bk.flatMap encT)) (hb : bk.length ≤ 140737488355328) : Calls Try.prog 77 #[.agg #[.int .i64 r, .int .i64 s, .slice BA bk.length bc], .int .i64 p, .int .i64 fi, .int .i64 nx] W fun e w' => ∀ q, q = planF r s (numB bk p) p fi nx → e = .returned (.tuple #[.agg #[.bool q.2.1, .int .i64 q.2.2.1, .int .i64 q.2.2.2], .int .i64 (q.1)]) ∧ Sat W w' [] := by
  refine enter Try.func77 rfl rfl rfl (.cons (i := 0) rfl (.cons (i := 1) rfl (.cons (i := 2) rfl (.cons (i := 3) rfl .nil)))) ?_
  intro a hA
  have hS := Sat.start W
  refine wp_seq_k fun k1 hk1 => ?_
  refine wp_region_lit ?_
  refine goB hA rfl rfl hS ?_
  clear hA a hS; intro b4 w hS a hA
  refine goN hA rfl T.zv81 hS ?_
  clear hA a hS; intro b8 w hS a hA
  refine go1 hA rfl rfl rfl (r_assign (hA.ev rfl)) ?_; clear hA a; intro a hA
  refine wpList_nil ?_
  refine hk1 _ _ ?_
  clear hk1 k1
  replace hA := hA.keep (.cons (i := 1) rfl (.cons (i := 2) rfl (.cons (i := 3) rfl (.cons (i := 4) rfl (.cons (i := 8) rfl (.cons (i := 9) rfl .nil))))))
  refine wp_seq_k fun k2 hk2 => ?_
  refine wp_region_lit ?_
  refine go1 hA rfl rfl rfl (r_loadS (cs := [_, _, _]) (hA.ev rfl) T.ag70 T.sz70 (by first | exact hS.cellsAt (xs := [_, _, _]) rfl | exact (hS.p 1).cellsAt (xs := [_, _, _]) rfl)) ?_; clear hA a; intro a hA
  refine go1 hA rfl rfl rfl (r_move (hA.ev rfl)) ?_; clear hA a; intro a hA
  refine goF hA rfl T.en80 rfl (Peer_calls w r s BA bc bk p (hR.sat hS) hb) ?_
  clear hA a; rintro e w ⟨rfl, hT⟩; replace hS : Sat _ _ _ := hS.rebase hT; clear hT; have hck := chkF_cases r s p
  refine ⟨_, rfl, ?_⟩; intro a hA
  refine go1 hA rfl rfl rfl (r_assign (hA.ev rfl)) ?_; clear hA a; intro a hA
  refine wpList_nil ?_
  refine hk2 _ _ ?_
  clear hk2 k2
  replace hA := hA.keep (.cons (i := 1) rfl (.cons (i := 2) rfl (.cons (i := 3) rfl (.cons (i := 4) rfl (.cons (i := 8) rfl (.cons (i := 9) rfl (.cons (i := 10) rfl .nil)))))))
  refine wp_seq_k fun k3 hk3 => ?_
  refine wp_seq_k fun k4 hk4 => ?_
  refine wp_region_lit ?_
  refine go1 hA rfl rfl rfl (r_move (hA.ev rfl)) ?_; clear hA a; intro a hA
  refine go1s hA rfl rfl rfl (r_neq (hA.ev rfl) (hA.ev rfl)) ?_ ?_
  · clear hA a; intro h16 a hA
    try (first | contradiction | (exfalso; omega) | (exfalso; simp at h16; done))
    all_goals
     skip
     refine wpList_nil ?_
     refine hk4 _ _ ?_
     clear hk4 k4
     replace hA := hA.keep (.cons (i := 1) rfl (.cons (i := 2) rfl (.cons (i := 3) rfl (.cons (i := 4) rfl (.cons (i := 8) rfl (.cons (i := 9) rfl (.cons (i := 10) rfl (.cons (i := 16) rfl .nil))))))))
     refine wp_cond_true (hA.ev rfl) ?_
     refine wp_seq_k fun k5 hk5 => ?_
     refine wp_region_lit ?_
     refine go1 hA rfl rfl rfl (r_build hA rfl T.bd81_) ?_; clear hA a; intro a hA
     refine go1 hA rfl rfl rfl (r_move (hA.ev rfl)) ?_; clear hA a; intro a hA
     first | refine goWS2 (vs := [_, _, _]) (cs' := [_, _, _]) hA rfl rfl T.sz81 (by simp [Value.oneCell']) hS rfl rfl ?_ | refine goWS2 (vs := [_, _, _]) (cs' := [_, _, _]) hA rfl rfl T.sz81 (by simp [Value.oneCell']) (hS.p 1) rfl rfl ?_
     clear hS; intro w hS
     refine go1 hA rfl rfl rfl (r_assign (hA.ev rfl)) ?_; clear hA a; intro a hA
     refine wpList_nil ?_
     refine hk5 _ _ ?_
     clear hk5 k5
     replace hA := hA.keep (.cons (i := 1) rfl (.cons (i := 2) rfl (.cons (i := 3) rfl (.cons (i := 4) rfl (.cons (i := 8) rfl (.cons (i := 9) rfl .nil))))))
     refine wp_ret ?_
     refine then_ret ?_; clear hk3 k3
     refine endR2 hA rfl (resS (cs := [_, _, _]) hA rfl T.ag81 T.sz81 (by first | exact hS.cellsAt (xs := [_, _, _]) rfl | exact (hS.p 1).cellsAt (xs := [_, _, _]) rfl)) (resT hA rfl) ?_
     first
       | (intro q hq; subst hq; refine ⟨?_, hS.nil⟩; unfold planF; rcases hck with h | h | h <;> first | rw [if_pos (by omega), show chkF r s p = 3 from by omega] | rw [if_neg (by omega), if_pos (by omega), show chkF r s p = 16 from by omega] | omega)
       | (intro q hq; subst hq; refine ⟨?_, hS.nil⟩; unfold planF; rw [if_neg (by omega), if_neg (by omega), if_pos (by omega)])
       | (intro q hq; subst hq; refine ⟨?_, hS.nil⟩; unfold planF; rw [if_neg (by omega), if_neg (by omega), if_neg (by omega), if_pos (by omega)])
       | (intro q hq; subst hq; refine ⟨?_, hS.nil⟩; unfold planF; rw [if_neg (by omega), if_neg (by omega), if_neg (by omega), if_neg (by omega)])
  · clear hA a; intro h16 a hA
    try (first | contradiction | (exfalso; omega) | (exfalso; simp at h16; done))
    all_goals
     skip
     refine wpList_nil ?_
     refine hk4 _ _ ?_
     clear hk4 k4
     replace hA := hA.keep (.cons (i := 1) rfl (.cons (i := 2) rfl (.cons (i := 3) rfl (.cons (i := 4) rfl (.cons (i := 8) rfl (.cons (i := 9) rfl (.cons (i := 10) rfl (.cons (i := 16) rfl .nil))))))))
     refine wp_cond_false (hA.ev rfl) ?_
     refine wp_skip ?_
     refine hk3 _ _ ?_
     clear hk3 k3
     replace hA := hA.keep (.cons (i := 1) rfl (.cons (i := 2) rfl (.cons (i := 3) rfl (.cons (i := 4) rfl (.cons (i := 8) rfl (.cons (i := 9) rfl .nil))))))
     refine wp_seq_k fun k6 hk6 => ?_
     refine wp_seq_k fun k7 hk7 => ?_
     refine wp_region_lit ?_
     refine go1 hA rfl rfl rfl (r_move (hA.ev rfl)) ?_; clear hA a; intro a hA
     refine go1s hA rfl rfl rfl (r_lss (hA.ev rfl) (hA.ev rfl)) ?_ ?_
     · clear hA a; intro h20 a hA
       try (first | contradiction | (exfalso; omega) | (exfalso; simp at h20; done))
       all_goals
        skip
        refine go1 hA rfl rfl rfl (r_move (hA.ev rfl)) ?_; clear hA a; intro a hA
        refine goS hA (wanted_no hA rfl rfl rfl rfl) rfl rfl ?_; clear hA a; intro a hA
        refine goS hA (wanted_no hA rfl rfl rfl rfl) rfl rfl ?_; clear hA a; intro a hA
        refine goS hA (wanted_no hA rfl rfl rfl rfl) rfl rfl ?_; clear hA a; intro a hA
        refine go1 hA rfl rfl rfl (r_pick_t (hA.ev rfl) (hA.ev rfl)) ?_; clear hA a; intro a hA
        refine go1 hA rfl rfl rfl (r_move (hA.ev rfl)) ?_; clear hA a; intro a hA
        refine goS hA (wanted_no hA rfl rfl rfl rfl) rfl rfl ?_; clear hA a; intro a hA
        refine goS hA (wanted_no hA rfl rfl rfl rfl) rfl rfl ?_; clear hA a; intro a hA
        refine go1 hA rfl rfl rfl (r_pick_t (hA.ev rfl) (hA.ev rfl)) ?_; clear hA a; intro a hA
        refine wpList_nil ?_
        refine hk7 _ _ ?_
        clear hk7 k7
        replace hA := hA.keep (.cons (i := 1) rfl (.cons (i := 2) rfl (.cons (i := 3) rfl (.cons (i := 4) rfl (.cons (i := 8) rfl (.cons (i := 9) rfl (.cons (i := 29) rfl .nil)))))))
        refine wp_cond_true (hA.ev rfl) ?_
        refine wp_seq_k fun k8 hk8 => ?_
        refine wp_region_lit ?_
        refine go1 hA rfl rfl rfl (r_build hA rfl T.bd81_) ?_; clear hA a; intro a hA
        first | refine goWS2 (vs := [_, _, _]) (cs' := [_, _, _]) hA rfl rfl T.sz81 (by simp [Value.oneCell']) hS rfl rfl ?_ | refine goWS2 (vs := [_, _, _]) (cs' := [_, _, _]) hA rfl rfl T.sz81 (by simp [Value.oneCell']) (hS.p 1) rfl rfl ?_
        clear hS; intro w hS
        refine go1 hA rfl rfl rfl (r_assign (hA.ev rfl)) ?_; clear hA a; intro a hA
        refine wpList_nil ?_
        refine hk8 _ _ ?_
        clear hk8 k8
        replace hA := hA.keep (.cons (i := 1) rfl (.cons (i := 2) rfl (.cons (i := 3) rfl (.cons (i := 4) rfl (.cons (i := 8) rfl (.cons (i := 9) rfl .nil))))))
        refine wp_ret ?_
        refine then_ret ?_; clear hk6 k6
        refine endR2 hA rfl (resS (cs := [_, _, _]) hA rfl T.ag81 T.sz81 (by first | exact hS.cellsAt (xs := [_, _, _]) rfl | exact (hS.p 1).cellsAt (xs := [_, _, _]) rfl)) (resT hA rfl) ?_
        first
          | (intro q hq; subst hq; refine ⟨?_, hS.nil⟩; unfold planF; rcases hck with h | h | h <;> first | rw [if_pos (by omega), show chkF r s p = 3 from by omega] | rw [if_neg (by omega), if_pos (by omega), show chkF r s p = 16 from by omega] | omega)
          | (intro q hq; subst hq; refine ⟨?_, hS.nil⟩; unfold planF; rw [if_neg (by omega), if_neg (by omega), if_pos (by omega)])
          | (intro q hq; subst hq; refine ⟨?_, hS.nil⟩; unfold planF; rw [if_neg (by omega), if_neg (by omega), if_neg (by omega), if_pos (by omega)])
          | (intro q hq; subst hq; refine ⟨?_, hS.nil⟩; unfold planF; rw [if_neg (by omega), if_neg (by omega), if_neg (by omega), if_neg (by omega)])
     · clear hA a; intro h20 a hA
       try (first | contradiction | (exfalso; omega) | (exfalso; simp at h20; done))
       all_goals
        skip
        refine go1 hA rfl rfl rfl (r_move (hA.ev rfl)) ?_; clear hA a; intro a hA
        refine go1y hA (wanted_yes hA rfl rfl rfl) rfl rfl (r_move (hA.ev rfl)) ?_; clear hA a; intro a hA
        refine go1y hA (wanted_yes hA rfl rfl rfl) rfl rfl (r_move (hA.ev rfl)) ?_; clear hA a; intro a hA
        refine go1sy hA (wanted_yes hA rfl rfl rfl) rfl rfl (r_gtr (hA.ev rfl) (hA.ev rfl)) ?_ ?_
        · clear hA a; intro h24 a hA
          try (first | contradiction | (exfalso; omega) | (exfalso; simp at h24; done))
          all_goals
           skip
           refine go1 hA rfl rfl rfl (r_pick_f (hA.ev rfl) (hA.ev rfl)) ?_; clear hA a; intro a hA
           refine go1 hA rfl rfl rfl (r_move (hA.ev rfl)) ?_; clear hA a; intro a hA
           refine goS hA (wanted_no hA rfl rfl rfl rfl) rfl rfl ?_; clear hA a; intro a hA
           refine goS hA (wanted_no hA rfl rfl rfl rfl) rfl rfl ?_; clear hA a; intro a hA
           refine go1 hA rfl rfl rfl (r_pick_t (hA.ev rfl) (hA.ev rfl)) ?_; clear hA a; intro a hA
           refine wpList_nil ?_
           refine hk7 _ _ ?_
           clear hk7 k7
           replace hA := hA.keep (.cons (i := 1) rfl (.cons (i := 2) rfl (.cons (i := 3) rfl (.cons (i := 4) rfl (.cons (i := 8) rfl (.cons (i := 9) rfl (.cons (i := 29) rfl .nil)))))))
           refine wp_cond_true (hA.ev rfl) ?_
           refine wp_seq_k fun k9 hk9 => ?_
           refine wp_region_lit ?_
           refine go1 hA rfl rfl rfl (r_build hA rfl T.bd81_) ?_; clear hA a; intro a hA
           first | refine goWS2 (vs := [_, _, _]) (cs' := [_, _, _]) hA rfl rfl T.sz81 (by simp [Value.oneCell']) hS rfl rfl ?_ | refine goWS2 (vs := [_, _, _]) (cs' := [_, _, _]) hA rfl rfl T.sz81 (by simp [Value.oneCell']) (hS.p 1) rfl rfl ?_
           clear hS; intro w hS
           refine go1 hA rfl rfl rfl (r_assign (hA.ev rfl)) ?_; clear hA a; intro a hA
           refine wpList_nil ?_
           refine hk9 _ _ ?_
           clear hk9 k9
           replace hA := hA.keep (.cons (i := 1) rfl (.cons (i := 2) rfl (.cons (i := 3) rfl (.cons (i := 4) rfl (.cons (i := 8) rfl (.cons (i := 9) rfl .nil))))))
           refine wp_ret ?_
           refine then_ret ?_; clear hk6 k6
           refine endR2 hA rfl (resS (cs := [_, _, _]) hA rfl T.ag81 T.sz81 (by first | exact hS.cellsAt (xs := [_, _, _]) rfl | exact (hS.p 1).cellsAt (xs := [_, _, _]) rfl)) (resT hA rfl) ?_
           first
             | (intro q hq; subst hq; refine ⟨?_, hS.nil⟩; unfold planF; rcases hck with h | h | h <;> first | rw [if_pos (by omega), show chkF r s p = 3 from by omega] | rw [if_neg (by omega), if_pos (by omega), show chkF r s p = 16 from by omega] | omega)
             | (intro q hq; subst hq; refine ⟨?_, hS.nil⟩; unfold planF; rw [if_neg (by omega), if_neg (by omega), if_pos (by omega)])
             | (intro q hq; subst hq; refine ⟨?_, hS.nil⟩; unfold planF; rw [if_neg (by omega), if_neg (by omega), if_neg (by omega), if_pos (by omega)])
             | (intro q hq; subst hq; refine ⟨?_, hS.nil⟩; unfold planF; rw [if_neg (by omega), if_neg (by omega), if_neg (by omega), if_neg (by omega)])
        · clear hA a; intro h24 a hA
          try (first | contradiction | (exfalso; omega) | (exfalso; simp at h24; done))
          all_goals
           skip
           refine go1 hA rfl rfl rfl (r_pick_f (hA.ev rfl) (hA.ev rfl)) ?_; clear hA a; intro a hA
           refine go1 hA rfl rfl rfl (r_move (hA.ev rfl)) ?_; clear hA a; intro a hA
           refine go1y hA (wanted_yes hA rfl rfl rfl) rfl rfl (r_move (hA.ev rfl)) ?_; clear hA a; intro a hA
           refine go1sy hA (wanted_yes hA rfl rfl rfl) rfl rfl (r_gtr (hA.ev rfl) (hA.ev rfl)) ?_ ?_
           · clear hA a; intro h28 a hA
             try (first | contradiction | (exfalso; omega) | (exfalso; simp at h28; done))
             all_goals
              skip
              refine go1 hA rfl rfl rfl (r_pick_f (hA.ev rfl) (hA.ev rfl)) ?_; clear hA a; intro a hA
              refine wpList_nil ?_
              refine hk7 _ _ ?_
              clear hk7 k7
              replace hA := hA.keep (.cons (i := 1) rfl (.cons (i := 2) rfl (.cons (i := 3) rfl (.cons (i := 4) rfl (.cons (i := 8) rfl (.cons (i := 9) rfl (.cons (i := 29) rfl .nil)))))))
              refine wp_cond_true (hA.ev rfl) ?_
              refine wp_seq_k fun k10 hk10 => ?_
              refine wp_region_lit ?_
              refine go1 hA rfl rfl rfl (r_build hA rfl T.bd81_) ?_; clear hA a; intro a hA
              first | refine goWS2 (vs := [_, _, _]) (cs' := [_, _, _]) hA rfl rfl T.sz81 (by simp [Value.oneCell']) hS rfl rfl ?_ | refine goWS2 (vs := [_, _, _]) (cs' := [_, _, _]) hA rfl rfl T.sz81 (by simp [Value.oneCell']) (hS.p 1) rfl rfl ?_
              clear hS; intro w hS
              refine go1 hA rfl rfl rfl (r_assign (hA.ev rfl)) ?_; clear hA a; intro a hA
              refine wpList_nil ?_
              refine hk10 _ _ ?_
              clear hk10 k10
              replace hA := hA.keep (.cons (i := 1) rfl (.cons (i := 2) rfl (.cons (i := 3) rfl (.cons (i := 4) rfl (.cons (i := 8) rfl (.cons (i := 9) rfl .nil))))))
              refine wp_ret ?_
              refine then_ret ?_; clear hk6 k6
              refine endR2 hA rfl (resS (cs := [_, _, _]) hA rfl T.ag81 T.sz81 (by first | exact hS.cellsAt (xs := [_, _, _]) rfl | exact (hS.p 1).cellsAt (xs := [_, _, _]) rfl)) (resT hA rfl) ?_
              first
                | (intro q hq; subst hq; refine ⟨?_, hS.nil⟩; unfold planF; rcases hck with h | h | h <;> first | rw [if_pos (by omega), show chkF r s p = 3 from by omega] | rw [if_neg (by omega), if_pos (by omega), show chkF r s p = 16 from by omega] | omega)
                | (intro q hq; subst hq; refine ⟨?_, hS.nil⟩; unfold planF; rw [if_neg (by omega), if_neg (by omega), if_pos (by omega)])
                | (intro q hq; subst hq; refine ⟨?_, hS.nil⟩; unfold planF; rw [if_neg (by omega), if_neg (by omega), if_neg (by omega), if_pos (by omega)])
                | (intro q hq; subst hq; refine ⟨?_, hS.nil⟩; unfold planF; rw [if_neg (by omega), if_neg (by omega), if_neg (by omega), if_neg (by omega)])
           · clear hA a; intro h28 a hA
             try (first | contradiction | (exfalso; omega) | (exfalso; simp at h28; done))
             all_goals
              skip
              refine go1 hA rfl rfl rfl (r_pick_f (hA.ev rfl) (hA.ev rfl)) ?_; clear hA a; intro a hA
              refine wpList_nil ?_
              refine hk7 _ _ ?_
              clear hk7 k7
              replace hA := hA.keep (.cons (i := 1) rfl (.cons (i := 2) rfl (.cons (i := 3) rfl (.cons (i := 4) rfl (.cons (i := 8) rfl (.cons (i := 9) rfl (.cons (i := 29) rfl .nil)))))))
              refine wp_cond_false (hA.ev rfl) ?_
              refine wp_skip ?_
              refine hk6 _ _ ?_
              clear hk6 k6
              replace hA := hA.keep (.cons (i := 1) rfl (.cons (i := 2) rfl (.cons (i := 3) rfl (.cons (i := 4) rfl (.cons (i := 8) rfl (.cons (i := 9) rfl .nil))))))
              refine wp_seq_k fun k11 hk11 => ?_
              refine wp_region_lit ?_
              refine go1 hA rfl rfl rfl (r_loadS (cs := [_, _, _]) (hA.ev rfl) T.ag70 T.sz70 (by first | exact hS.cellsAt (xs := [_, _, _]) rfl | exact (hS.p 1).cellsAt (xs := [_, _, _]) rfl)) ?_; clear hA a; intro a hA
              refine go1 hA rfl rfl rfl (r_move (hA.ev rfl)) ?_; clear hA a; intro a hA
              refine goF hA rfl T.en79 rfl (Number_calls w r s BA bc bk p (hR.sat hS) hb) ?_
              clear hA a; rintro e w ⟨rfl, hT⟩; replace hS : Sat _ _ _ := hS.rebase hT; clear hT
              refine ⟨_, rfl, ?_⟩; intro a hA
              refine go1 hA rfl rfl rfl (r_assign (hA.ev rfl)) ?_; clear hA a; intro a hA
              refine wpList_nil ?_
              refine hk11 _ _ ?_
              clear hk11 k11
              replace hA := hA.keep (.cons (i := 2) rfl (.cons (i := 3) rfl (.cons (i := 8) rfl (.cons (i := 9) rfl (.cons (i := 11) rfl .nil)))))
              refine wp_seq_k fun k12 hk12 => ?_
              refine wp_seq_k fun k13 hk13 => ?_
              refine wp_region_lit ?_
              refine go1 hA rfl rfl rfl (r_move (hA.ev rfl)) ?_; clear hA a; intro a hA
              refine go1 hA rfl rfl rfl (r_move (hA.ev rfl)) ?_; clear hA a; intro a hA
              refine go1s hA rfl rfl rfl (r_lss (hA.ev rfl) (hA.ev rfl)) ?_ ?_
              · clear hA a; intro h36 a hA
                try (first | contradiction | (exfalso; omega) | (exfalso; simp at h36; done))
                all_goals
                 skip
                 refine go1 hA rfl rfl rfl (r_move (hA.ev rfl)) ?_; clear hA a; intro a hA
                 refine goS hA (wanted_no hA rfl rfl rfl rfl) rfl rfl ?_; clear hA a; intro a hA
                 refine goS hA (wanted_no hA rfl rfl rfl rfl) rfl rfl ?_; clear hA a; intro a hA
                 refine goS hA (wanted_no hA rfl rfl rfl rfl) rfl rfl ?_; clear hA a; intro a hA
                 refine go1 hA rfl rfl rfl (r_pick_t (hA.ev rfl) (hA.ev rfl)) ?_; clear hA a; intro a hA
                 refine wpList_nil ?_
                 refine hk13 _ _ ?_
                 clear hk13 k13
                 replace hA := hA.keep (.cons (i := 3) rfl (.cons (i := 8) rfl (.cons (i := 9) rfl (.cons (i := 11) rfl (.cons (i := 41) rfl .nil)))))
                 refine wp_cond_true (hA.ev rfl) ?_
                 refine wp_seq_k fun k14 hk14 => ?_
                 refine wp_region_lit ?_
                 refine go1 hA rfl rfl rfl (r_move (hA.ev rfl)) ?_; clear hA a; intro a hA
                 refine go1 hA rfl rfl rfl (r_build hA rfl T.bd81_0_1_2) ?_; clear hA a; intro a hA
                 first | refine goWS2 (vs := [_, _, _]) (cs' := [_, _, _]) hA rfl rfl T.sz81 (by simp [Value.oneCell']) hS rfl rfl ?_ | refine goWS2 (vs := [_, _, _]) (cs' := [_, _, _]) hA rfl rfl T.sz81 (by simp [Value.oneCell']) (hS.p 1) rfl rfl ?_
                 clear hS; intro w hS
                 refine go1 hA rfl rfl rfl (r_assign (hA.ev rfl)) ?_; clear hA a; intro a hA
                 refine wpList_nil ?_
                 refine hk14 _ _ ?_
                 clear hk14 k14
                 replace hA := hA.keep (.cons (i := 3) rfl (.cons (i := 8) rfl (.cons (i := 9) rfl (.cons (i := 11) rfl .nil))))
                 refine wp_ret ?_
                 refine then_ret ?_; clear hk12 k12
                 refine endR2 hA rfl (resS (cs := [_, _, _]) hA rfl T.ag81 T.sz81 (by first | exact hS.cellsAt (xs := [_, _, _]) rfl | exact (hS.p 1).cellsAt (xs := [_, _, _]) rfl)) (resT hA rfl) ?_
                 first
                   | (intro q hq; subst hq; refine ⟨?_, hS.nil⟩; unfold planF; rcases hck with h | h | h <;> first | rw [if_pos (by omega), show chkF r s p = 3 from by omega] | rw [if_neg (by omega), if_pos (by omega), show chkF r s p = 16 from by omega] | omega)
                   | (intro q hq; subst hq; refine ⟨?_, hS.nil⟩; unfold planF; rw [if_neg (by omega), if_neg (by omega), if_pos (by omega)])
                   | (intro q hq; subst hq; refine ⟨?_, hS.nil⟩; unfold planF; rw [if_neg (by omega), if_neg (by omega), if_neg (by omega), if_pos (by omega)])
                   | (intro q hq; subst hq; refine ⟨?_, hS.nil⟩; unfold planF; rw [if_neg (by omega), if_neg (by omega), if_neg (by omega), if_neg (by omega)])
              · clear hA a; intro h36 a hA
                try (first | contradiction | (exfalso; omega) | (exfalso; simp at h36; done))
                all_goals
                 skip
                 refine go1 hA rfl rfl rfl (r_move (hA.ev rfl)) ?_; clear hA a; intro a hA
                 refine go1y hA (wanted_yes hA rfl rfl rfl) rfl rfl (r_move (hA.ev rfl)) ?_; clear hA a; intro a hA
                 refine go1y hA (wanted_yes hA rfl rfl rfl) rfl rfl (r_move (hA.ev rfl)) ?_; clear hA a; intro a hA
                 refine go1sy hA (wanted_yes hA rfl rfl rfl) rfl rfl (r_gtr (hA.ev rfl) (hA.ev rfl)) ?_ ?_
                 · clear hA a; intro h40 a hA
                   try (first | contradiction | (exfalso; omega) | (exfalso; simp at h40; done))
                   all_goals
                    skip
                    refine go1 hA rfl rfl rfl (r_pick_f (hA.ev rfl) (hA.ev rfl)) ?_; clear hA a; intro a hA
                    refine wpList_nil ?_
                    refine hk13 _ _ ?_
                    clear hk13 k13
                    replace hA := hA.keep (.cons (i := 3) rfl (.cons (i := 8) rfl (.cons (i := 9) rfl (.cons (i := 11) rfl (.cons (i := 41) rfl .nil)))))
                    refine wp_cond_true (hA.ev rfl) ?_
                    refine wp_seq_k fun k15 hk15 => ?_
                    refine wp_region_lit ?_
                    refine go1 hA rfl rfl rfl (r_move (hA.ev rfl)) ?_; clear hA a; intro a hA
                    refine go1 hA rfl rfl rfl (r_build hA rfl T.bd81_0_1_2) ?_; clear hA a; intro a hA
                    first | refine goWS2 (vs := [_, _, _]) (cs' := [_, _, _]) hA rfl rfl T.sz81 (by simp [Value.oneCell']) hS rfl rfl ?_ | refine goWS2 (vs := [_, _, _]) (cs' := [_, _, _]) hA rfl rfl T.sz81 (by simp [Value.oneCell']) (hS.p 1) rfl rfl ?_
                    clear hS; intro w hS
                    refine go1 hA rfl rfl rfl (r_assign (hA.ev rfl)) ?_; clear hA a; intro a hA
                    refine wpList_nil ?_
                    refine hk15 _ _ ?_
                    clear hk15 k15
                    replace hA := hA.keep (.cons (i := 3) rfl (.cons (i := 8) rfl (.cons (i := 9) rfl (.cons (i := 11) rfl .nil))))
                    refine wp_ret ?_
                    refine then_ret ?_; clear hk12 k12
                    refine endR2 hA rfl (resS (cs := [_, _, _]) hA rfl T.ag81 T.sz81 (by first | exact hS.cellsAt (xs := [_, _, _]) rfl | exact (hS.p 1).cellsAt (xs := [_, _, _]) rfl)) (resT hA rfl) ?_
                    first
                      | (intro q hq; subst hq; refine ⟨?_, hS.nil⟩; unfold planF; rcases hck with h | h | h <;> first | rw [if_pos (by omega), show chkF r s p = 3 from by omega] | rw [if_neg (by omega), if_pos (by omega), show chkF r s p = 16 from by omega] | omega)
                      | (intro q hq; subst hq; refine ⟨?_, hS.nil⟩; unfold planF; rw [if_neg (by omega), if_neg (by omega), if_pos (by omega)])
                      | (intro q hq; subst hq; refine ⟨?_, hS.nil⟩; unfold planF; rw [if_neg (by omega), if_neg (by omega), if_neg (by omega), if_pos (by omega)])
                      | (intro q hq; subst hq; refine ⟨?_, hS.nil⟩; unfold planF; rw [if_neg (by omega), if_neg (by omega), if_neg (by omega), if_neg (by omega)])
                 · clear hA a; intro h40 a hA
                   try (first | contradiction | (exfalso; omega) | (exfalso; simp at h40; done))
                   all_goals
                    skip
                    refine go1 hA rfl rfl rfl (r_pick_f (hA.ev rfl) (hA.ev rfl)) ?_; clear hA a; intro a hA
                    refine wpList_nil ?_
                    refine hk13 _ _ ?_
                    clear hk13 k13
                    replace hA := hA.keep (.cons (i := 3) rfl (.cons (i := 8) rfl (.cons (i := 9) rfl (.cons (i := 11) rfl (.cons (i := 41) rfl .nil)))))
                    refine wp_cond_false (hA.ev rfl) ?_
                    refine wp_skip ?_
                    refine hk12 _ _ ?_
                    clear hk12 k12
                    replace hA := hA.keep (.cons (i := 3) rfl (.cons (i := 8) rfl (.cons (i := 9) rfl (.cons (i := 11) rfl .nil))))
                    refine wp_seq_k fun k16 hk16 => ?_
                    refine wp_region_lit ?_
                    refine go1 hA rfl rfl rfl (r_move (hA.ev rfl)) ?_; clear hA a; intro a hA
                    refine go1 hA rfl rfl rfl (r_move (hA.ev rfl)) ?_; clear hA a; intro a hA
                    refine go1 hA rfl rfl rfl (r_build hA rfl T.bd81_0_1_2) ?_; clear hA a; intro a hA
                    first | refine goWS2 (vs := [_, _, _]) (cs' := [_, _, _]) hA rfl rfl T.sz81 (by simp [Value.oneCell']) hS rfl rfl ?_ | refine goWS2 (vs := [_, _, _]) (cs' := [_, _, _]) hA rfl rfl T.sz81 (by simp [Value.oneCell']) (hS.p 1) rfl rfl ?_
                    clear hS; intro w hS
                    refine go1 hA rfl rfl rfl (r_assign (hA.ev rfl)) ?_; clear hA a; intro a hA
                    refine wpList_nil ?_
                    refine hk16 _ _ ?_
                    clear hk16 k16
                    replace hA := hA.keep (.cons (i := 8) rfl (.cons (i := 9) rfl .nil))
                    refine wp_ret ?_
                    refine endR2 hA rfl (resS (cs := [_, _, _]) hA rfl T.ag81 T.sz81 (by first | exact hS.cellsAt (xs := [_, _, _]) rfl | exact (hS.p 1).cellsAt (xs := [_, _, _]) rfl)) (resT hA rfl) ?_
                    first
                      | (intro q hq; subst hq; refine ⟨?_, hS.nil⟩; unfold planF; rcases hck with h | h | h <;> first | rw [if_pos (by omega), show chkF r s p = 3 from by omega] | rw [if_neg (by omega), if_pos (by omega), show chkF r s p = 16 from by omega] | omega)
                      | (intro q hq; subst hq; refine ⟨?_, hS.nil⟩; unfold planF; rw [if_neg (by omega), if_neg (by omega), if_pos (by omega)])
                      | (intro q hq; subst hq; refine ⟨?_, hS.nil⟩; unfold planF; rw [if_neg (by omega), if_neg (by omega), if_neg (by omega), if_pos (by omega)])
                      | (intro q hq; subst hq; refine ⟨?_, hS.nil⟩; unfold planF; rw [if_neg (by omega), if_neg (by omega), if_neg (by omega), if_neg (by omega)])
set_option maxRecDepth 100000 in
set_option maxHeartbeats 1000000 in
theorem RefNew_calls17 (W : World) (n s : Int)  : Calls Try.prog 74 #[.int .i64 n, .int .i64 s] W fun e w' => e = .returned (.int .i64 (newF n s)) ∧ Sat W w' [] := by
  refine enter Try.func74 rfl rfl rfl (.cons (i := 0) rfl (.cons (i := 1) rfl .nil)) ?_
  intro a hA
  have hS := Sat.start W
  refine wp_seq_k fun k1 hk1 => ?_
  refine wp_region_lit ?_
  refine go1 hA rfl rfl rfl (r_assign (hA.ev rfl)) ?_; clear hA a; intro a hA
  refine wpList_nil ?_
  refine hk1 _ _ ?_
  clear hk1 k1
  refine wp_seq_k fun k2 hk2 => ?_
  refine wp_seq_k fun k3 hk3 => ?_
  refine wp_region_lit ?_
  refine go1 hA rfl rfl rfl (r_move (hA.ev rfl)) ?_; clear hA a; intro a hA
  refine go1s hA rfl rfl rfl (r_lss (hA.ev rfl) (hA.ev rfl)) ?_ ?_
  · clear hA a; intro h6 a hA
    try (first | contradiction | (exfalso; omega) | (exfalso; simp at h6; done))
    all_goals
     skip
     refine go1 hA rfl rfl rfl (r_move (hA.ev rfl)) ?_; clear hA a; intro a hA
     refine goS hA (wanted_no hA rfl rfl rfl rfl) rfl rfl ?_; clear hA a; intro a hA
     refine goS hA (wanted_no hA rfl rfl rfl rfl) rfl rfl ?_; clear hA a; intro a hA
     refine go1 hA rfl rfl rfl (r_pick_t (hA.ev rfl) (hA.ev rfl)) ?_; clear hA a; intro a hA
     refine wpList_nil ?_
     refine hk3 _ _ ?_
     clear hk3 k3
     replace hA := hA.keep (.cons (i := 0) rfl (.cons (i := 1) rfl (.cons (i := 4) rfl (.cons (i := 10) rfl .nil))))
     refine wp_cond_true (hA.ev rfl) ?_
     refine wp_seq_k fun k4 hk4 => ?_
     refine wp_region_lit ?_
     refine go1 hA rfl rfl rfl (r_assign (hA.ev rfl)) ?_; clear hA a; intro a hA
     refine wpList_nil ?_
     refine hk4 _ _ ?_
     clear hk4 k4
     replace hA := hA.keep (.cons (i := 0) rfl (.cons (i := 1) rfl (.cons (i := 4) rfl .nil)))
     refine wp_ret ?_
     refine then_ret ?_; clear hk2 k2
     refine end1 hA rfl rfl ?_
     exact ⟨ret_i (by unfold newF; (repeat' split) <;> omega), hS⟩
  · clear hA a; intro h6 a hA
    try (first | contradiction | (exfalso; omega) | (exfalso; simp at h6; done))
    all_goals
     skip
     refine go1 hA rfl rfl rfl (r_move (hA.ev rfl)) ?_; clear hA a; intro a hA
     refine go1y hA (wanted_yes hA rfl rfl rfl) rfl rfl (r_move (hA.ev rfl)) ?_; clear hA a; intro a hA
     refine go1sy hA (wanted_yes hA rfl rfl rfl) rfl rfl (r_gtr (hA.ev rfl) (hA.ev rfl)) ?_ ?_
     · clear hA a; intro h9 a hA
       try (first | contradiction | (exfalso; omega) | (exfalso; simp at h9; done))
       all_goals
        skip
        refine go1 hA rfl rfl rfl (r_pick_f (hA.ev rfl) (hA.ev rfl)) ?_; clear hA a; intro a hA
        refine wpList_nil ?_
        refine hk3 _ _ ?_
        clear hk3 k3
        replace hA := hA.keep (.cons (i := 0) rfl (.cons (i := 1) rfl (.cons (i := 4) rfl (.cons (i := 10) rfl .nil))))
        refine wp_cond_true (hA.ev rfl) ?_
        refine wp_seq_k fun k5 hk5 => ?_
        refine wp_region_lit ?_
        refine go1 hA rfl rfl rfl (r_assign (hA.ev rfl)) ?_; clear hA a; intro a hA
        refine wpList_nil ?_
        refine hk5 _ _ ?_
        clear hk5 k5
        replace hA := hA.keep (.cons (i := 0) rfl (.cons (i := 1) rfl (.cons (i := 4) rfl .nil)))
        refine wp_ret ?_
        refine then_ret ?_; clear hk2 k2
        refine end1 hA rfl rfl ?_
        exact ⟨ret_i (by unfold newF; (repeat' split) <;> omega), hS⟩
     · clear hA a; intro h9 a hA
       try (first | contradiction | (exfalso; omega) | (exfalso; simp at h9; done))
       all_goals
        skip
        refine go1 hA rfl rfl rfl (r_pick_f (hA.ev rfl) (hA.ev rfl)) ?_; clear hA a; intro a hA
        refine wpList_nil ?_
        refine hk3 _ _ ?_
        clear hk3 k3
        replace hA := hA.keep (.cons (i := 0) rfl (.cons (i := 1) rfl (.cons (i := 4) rfl (.cons (i := 10) rfl .nil))))
        refine wp_cond_false (hA.ev rfl) ?_
        refine wp_skip ?_
        refine hk2 _ _ ?_
        clear hk2 k2
        replace hA := hA.keep (.cons (i := 0) rfl (.cons (i := 1) rfl (.cons (i := 4) rfl .nil)))
        refine wp_seq_k fun k6 hk6 => ?_
        refine wp_seq_k fun k7 hk7 => ?_
        refine wp_region_lit ?_
        refine go1 hA rfl rfl rfl (r_move (hA.ev rfl)) ?_; clear hA a; intro a hA
        refine go1s hA rfl rfl rfl (r_lss (hA.ev rfl) (hA.ev rfl)) ?_ ?_
        · clear hA a; intro h12 a hA
          try (first | contradiction | (exfalso; omega) | (exfalso; simp at h12; done))
          all_goals
           skip
           refine go1 hA rfl rfl rfl (r_move (hA.ev rfl)) ?_; clear hA a; intro a hA
           refine goS hA (wanted_no hA rfl rfl rfl rfl) rfl rfl ?_; clear hA a; intro a hA
           refine goS hA (wanted_no hA rfl rfl rfl rfl) rfl rfl ?_; clear hA a; intro a hA
           refine goS hA (wanted_no hA rfl rfl rfl rfl) rfl rfl ?_; clear hA a; intro a hA
           refine go1 hA rfl rfl rfl (r_pick_t (hA.ev rfl) (hA.ev rfl)) ?_; clear hA a; intro a hA
           refine wpList_nil ?_
           refine hk7 _ _ ?_
           clear hk7 k7
           replace hA := hA.keep (.cons (i := 4) rfl (.cons (i := 17) rfl .nil))
           refine wp_cond_true (hA.ev rfl) ?_
           refine wp_seq_k fun k8 hk8 => ?_
           refine wp_region_lit ?_
           refine go1 hA rfl rfl rfl (r_assign (hA.ev rfl)) ?_; clear hA a; intro a hA
           refine wpList_nil ?_
           refine hk8 _ _ ?_
           clear hk8 k8
           replace hA := hA.keep (.cons (i := 4) rfl .nil)
           refine wp_ret ?_
           refine then_ret ?_; clear hk6 k6
           refine end1 hA rfl rfl ?_
           exact ⟨ret_i (by unfold newF; (repeat' split) <;> omega), hS⟩
        · clear hA a; intro h12 a hA
          try (first | contradiction | (exfalso; omega) | (exfalso; simp at h12; done))
          all_goals
           skip
           refine go1 hA rfl rfl rfl (r_move (hA.ev rfl)) ?_; clear hA a; intro a hA
           refine go1y hA (wanted_yes hA rfl rfl rfl) rfl rfl (r_move (hA.ev rfl)) ?_; clear hA a; intro a hA
           refine go1y hA (wanted_yes hA rfl rfl rfl) rfl rfl (r_move (hA.ev rfl)) ?_; clear hA a; intro a hA
           refine go1sy hA (wanted_yes hA rfl rfl rfl) rfl rfl (r_geq (hA.ev rfl) (hA.ev rfl)) ?_ ?_
           · clear hA a; intro h16 a hA
             try (first | contradiction | (exfalso; omega) | (exfalso; simp at h16; done))
             all_goals
              skip
              refine go1 hA rfl rfl rfl (r_pick_f (hA.ev rfl) (hA.ev rfl)) ?_; clear hA a; intro a hA
              refine wpList_nil ?_
              refine hk7 _ _ ?_
              clear hk7 k7
              replace hA := hA.keep (.cons (i := 4) rfl (.cons (i := 17) rfl .nil))
              refine wp_cond_true (hA.ev rfl) ?_
              refine wp_seq_k fun k9 hk9 => ?_
              refine wp_region_lit ?_
              refine go1 hA rfl rfl rfl (r_assign (hA.ev rfl)) ?_; clear hA a; intro a hA
              refine wpList_nil ?_
              refine hk9 _ _ ?_
              clear hk9 k9
              replace hA := hA.keep (.cons (i := 4) rfl .nil)
              refine wp_ret ?_
              refine then_ret ?_; clear hk6 k6
              refine end1 hA rfl rfl ?_
              exact ⟨ret_i (by unfold newF; (repeat' split) <;> omega), hS⟩
           · clear hA a; intro h16 a hA
             try (first | contradiction | (exfalso; omega) | (exfalso; simp at h16; done))
             all_goals
              skip
              refine go1 hA rfl rfl rfl (r_pick_f (hA.ev rfl) (hA.ev rfl)) ?_; clear hA a; intro a hA
              refine wpList_nil ?_
              refine hk7 _ _ ?_
              clear hk7 k7
              replace hA := hA.keep (.cons (i := 4) rfl (.cons (i := 17) rfl .nil))
              refine wp_cond_false (hA.ev rfl) ?_
              refine wp_skip ?_
              refine hk6 _ _ ?_
              clear hk6 k6
              replace hA := hA.keep (.cons (i := 4) rfl .nil)
              refine wp_seq_k fun k10 hk10 => ?_
              refine wp_region_lit ?_
              refine go1 hA rfl rfl rfl (r_assign (hA.ev rfl)) ?_; clear hA a; intro a hA
              refine wpList_nil ?_
              refine hk10 _ _ ?_
              clear hk10 k10
              refine wp_ret ?_
              refine end1 hA rfl rfl ?_
              exact ⟨ret_i (by unfold newF; (repeat' split) <;> omega), hS⟩
set_option maxRecDepth 100000 in
set_option maxHeartbeats 1000000 in
theorem RefAll_calls (W : World) (r : Nat) (s : Int) (BA : Option Addr) (bc : Nat) (bk : List (Int × Int)) (hR : Rd W 2 (.slice BA bk.length bc) bk.length (bk.flatMap encT)) (hb : bk.length ≤ 140737488355328) (hr : r ≤ 16) : Calls Try.prog 59 #[.agg #[.int .i64 r, .int .i64 s, .slice BA bk.length bc]] W fun e w' => ∃ A' c', e = .returned (.slice A' r c') ∧ Sat W w' [row 3 1 (.slice A' r c') r ((allF r s bk).map (Value.int .i64))] := by
  refine enter Try.func59 rfl rfl rfl (.cons (i := 0) rfl .nil) ?_
  intro a hA
  have hS := Sat.start W
  refine wp_seq_k fun k1 hk1 => ?_
  refine wp_region_lit ?_
  refine goB hA rfl rfl hS ?_
  clear hA a hS; intro b1 w hS a hA
  refine go1 hA rfl rfl rfl (r_assign (hA.ev rfl)) ?_; clear hA a; intro a hA
  refine wpList_nil ?_
  refine hk1 _ _ ?_
  clear hk1 k1
  replace hA := hA.keep (.cons (i := 1) rfl (.cons (i := 2) rfl .nil))
  refine wp_seq_k fun k2 hk2 => ?_
  refine wp_region_lit ?_
  refine go1 hA rfl rfl rfl (r_assign (hA.ev rfl)) ?_; clear hA a; intro a hA
  refine wpList_nil ?_
  refine hk2 _ _ ?_
  clear hk2 k2
  refine wp_seq_k fun k3 hk3 => ?_
  refine wp_seq_k fun k4 hk4 => ?_
  refine wp_region_lit ?_
  refine go1 hA rfl rfl rfl (r_assign (hA.ev rfl)) ?_; clear hA a; intro a hA
  refine wpList_nil ?_
  refine hk4 _ _ ?_
  clear hk4 k4
  refine wp_block ?_
  refine wp_loop_ghost (fun (mm : Nat) a w => ∃ (A' : Option Addr) (c' : Nat) (i : Int), Ag a 25 [(1, .pointer (some ⟨b1, 0, none⟩)), (3, .slice A' i.toNat c'), (4, .int .i64 i)] ∧ Sat W w ([row 3 1 (.slice A' i.toNat c') i.toNat ((allF i.toNat s bk).map (Value.int .i64)), pto b1 (.cells #[.int .i64 r, .int .i64 s, .slice BA bk.length bc] 70)]) ∧ (0 ≤ i) ∧ (i ≤ r) ∧ mm = (r - i).toNat) r ?_ ?_
  · replace hA := hA.keep (.cons (i := 1) rfl (.cons (i := 3) rfl (.cons (i := 4) rfl .nil)))
    replace hS := hS.row_nil 3 1
    exact ⟨_, _, 0, hA, hS, (by omega), (by omega), by omega⟩
  intro m a w hI
  clear hS hA; obtain ⟨A', c', i, hA, hS, hi0, hi1, rfl⟩ := hI
  refine wp_seq_k fun k5 hk5 => ?_
  refine wp_seq_k fun k6 hk6 => ?_
  refine wp_region_lit ?_
  refine go1 hA rfl rfl rfl (r_move (hA.ev rfl)) ?_; clear hA a; intro a hA
  refine go1 hA rfl rfl rfl (r_field (hA.ev rfl) T.fo70_0) ?_; clear hA a; intro a hA
  refine go1 hA rfl rfl rfl (r_load (hA.ev rfl) T.fl3 (by first | exact hS.cell rfl | exact (hS.p 1).cell rfl | exact (hS.p 2).cell rfl)) ?_; clear hA a; intro a hA
  refine go1s hA rfl rfl rfl (r_lss (hA.ev rfl) (hA.ev rfl)) ?_ ?_
  · clear hA a; intro h8 a hA
    try (first | contradiction | (exfalso; omega) | (exfalso; simp at h8; done))
    all_goals
     skip
     refine wpList_nil ?_
     refine hk6 _ _ ?_
     clear hk6 k6
     refine wp_cond_true (hA.ev rfl) ?_
     refine wp_skip ?_
     refine hk5 _ _ ?_
     clear hk5 k5
     refine wp_seq_k fun k7 hk7 => ?_
     refine wp_block ?_
     refine wp_seq_k fun k8 hk8 => ?_
     refine wp_region_lit ?_
     refine go1 hA rfl rfl rfl (r_move (hA.ev rfl)) ?_; clear hA a; intro a hA
     refine go1 hA rfl rfl rfl (r_field (hA.ev rfl) T.fo70_1) ?_; clear hA a; intro a hA
     refine go1 hA rfl rfl rfl (r_load (hA.ev rfl) T.fl3 (by first | exact hS.cell rfl | exact (hS.p 1).cell rfl | exact (hS.p 2).cell rfl)) ?_; clear hA a; intro a hA
     refine go1s hA rfl rfl rfl (r_eql (hA.ev rfl) (hA.ev rfl)) ?_ ?_
     · clear hA a; intro h14 a hA
       try (first | contradiction | (exfalso; omega) | (exfalso; simp at h14; done))
       all_goals
        skip
        refine wpList_nil ?_
        refine hk8 _ _ ?_
        clear hk8 k8
        refine wp_cond_true (hA.ev rfl) ?_
        refine wp_region_lit ?_
        refine go1 hA rfl rfl rfl (r_move (hA.ev rfl)) ?_; clear hA a; intro a hA
        refine goL hA rfl rfl T.un54 T.el3 rfl rfl rfl (by simp [Value.oneCell']) hS ?_
        clear hA a hS; intro A16 w hS a hA
        refine goA' hA rfl rfl rfl T.un54 T.el3 rfl (hS.p 1) (hS.rd.src T.un54 (by simp [Value.oneCell'])) (by omega) (by omega) ?_
        clear hA a hS; intro A17 c17 w hc17 hS a hA
        refine go1 hA rfl rfl rfl (r_assign (hA.ev rfl)) ?_; clear hA a; intro a hA
        refine wpList_nil ?_
        refine block_normal ?_
        refine hk7 _ _ ?_
        clear hk7 k7
        refine wp_region_lit ?_
        refine go1 hA rfl rfl rfl (r_move (hA.ev rfl)) ?_; clear hA a; intro a hA
        refine go1 hA rfl rfl rfl (r_add64 (hA.ev rfl) (hA.ev rfl) (by omega) (by omega)) ?_; clear hA a; intro a hA
        refine go1 hA rfl rfl rfl (r_assign (hA.ev rfl)) ?_; clear hA a; intro a hA
        refine wpList_nil ?_
        replace hA := hA.keep (.cons (i := 1) rfl (.cons (i := 3) rfl (.cons (i := 4) rfl .nil)))
        rw [show i.toNat + 1 = (i + 1).toNat from by omega] at hS hA
        have hal : (allF i.toNat s bk).map (Value.int .i64) ++ [Value.int .i64 (if ((i.toNat : Nat) : Int) = s then 0 else numB bk (i.toNat : Nat))] = (allF (i + 1).toNat s bk).map (Value.int .i64) := by rw [show (i + 1).toNat = i.toNat + 1 from by omega, allF_succ]; simp
        rw [show ((i.toNat : Nat) : Int) = i from by omega] at hal
        first | rw [if_pos (by omega)] at hal | rw [if_neg (by omega)] at hal
        rw [hal] at hS
        refine ⟨_, ?_, _, _, _, hA, (hS.p 1).drop, by omega, by omega, rfl⟩
        omega
     · clear hA a; intro h14 a hA
       try (first | contradiction | (exfalso; omega) | (exfalso; simp at h14; done))
       all_goals
        skip
        refine wpList_nil ?_
        refine hk8 _ _ ?_
        clear hk8 k8
        refine wp_cond_false (hA.ev rfl) ?_
        refine wp_region_lit ?_
        refine go1 hA rfl rfl rfl (r_move (hA.ev rfl)) ?_; clear hA a; intro a hA
        refine go1 hA rfl rfl rfl (r_loadS (cs := [_, _, _]) (hA.ev rfl) T.ag70 T.sz70 (by first | exact hS.cellsAt (xs := [_, _, _]) rfl | exact (hS.p 1).cellsAt (xs := [_, _, _]) rfl | exact (hS.p 2).cellsAt (xs := [_, _, _]) rfl)) ?_; clear hA a; intro a hA
        refine go1 hA rfl rfl rfl (r_move (hA.ev rfl)) ?_; clear hA a; intro a hA
        refine goF hA rfl T.en79 rfl (Number_calls w r s BA bc bk i (hR.sat hS) hb) ?_
        clear hA a; rintro e w ⟨rfl, hT⟩; replace hS : Sat _ _ _ := hS.rebase hT; clear hT
        refine ⟨_, rfl, ?_⟩; intro a hA
        refine goL hA rfl rfl T.un54 T.el3 rfl rfl rfl (by simp [Value.oneCell']) hS ?_
        clear hA a hS; intro A22 w hS a hA
        refine goA' hA rfl rfl rfl T.un54 T.el3 rfl (hS.p 1) (hS.rd.src T.un54 (by simp [Value.oneCell'])) (by omega) (by omega) ?_
        clear hA a hS; intro A23 c23 w hc23 hS a hA
        refine go1 hA rfl rfl rfl (r_assign (hA.ev rfl)) ?_; clear hA a; intro a hA
        refine wpList_nil ?_
        refine block_normal ?_
        refine hk7 _ _ ?_
        clear hk7 k7
        refine wp_region_lit ?_
        refine go1 hA rfl rfl rfl (r_move (hA.ev rfl)) ?_; clear hA a; intro a hA
        refine go1 hA rfl rfl rfl (r_add64 (hA.ev rfl) (hA.ev rfl) (by omega) (by omega)) ?_; clear hA a; intro a hA
        refine go1 hA rfl rfl rfl (r_assign (hA.ev rfl)) ?_; clear hA a; intro a hA
        refine wpList_nil ?_
        replace hA := hA.keep (.cons (i := 1) rfl (.cons (i := 3) rfl (.cons (i := 4) rfl .nil)))
        rw [show i.toNat + 1 = (i + 1).toNat from by omega] at hS hA
        have hal : (allF i.toNat s bk).map (Value.int .i64) ++ [Value.int .i64 (if ((i.toNat : Nat) : Int) = s then 0 else numB bk (i.toNat : Nat))] = (allF (i + 1).toNat s bk).map (Value.int .i64) := by rw [show (i + 1).toNat = i.toNat + 1 from by omega, allF_succ]; simp
        rw [show ((i.toNat : Nat) : Int) = i from by omega] at hal
        first | rw [if_pos (by omega)] at hal | rw [if_neg (by omega)] at hal
        rw [hal] at hS
        refine ⟨_, ?_, _, _, _, hA, (hS.p 1).drop, by omega, by omega, rfl⟩
        omega
  · clear hA a; intro h8 a hA
    try (first | contradiction | (exfalso; omega) | (exfalso; simp at h8; done))
    all_goals
     skip
     refine wpList_nil ?_
     refine hk6 _ _ ?_
     clear hk6 k6
     refine wp_cond_false (hA.ev rfl) ?_
     refine wp_exit ?_
     refine then_exit ?_; clear hk5 k5
     refine then_exit ?_
     refine block_hit ?_
     refine hk3 _ _ ?_
     clear hk3 k3
     replace hA := hA.keep (.cons (i := 3) rfl .nil)
     refine wp_seq_k fun k9 hk9 => ?_
     refine wp_region_lit ?_
     refine go1 hA rfl rfl rfl (r_move (hA.ev rfl)) ?_; clear hA a; intro a hA
     refine go1 hA rfl rfl rfl (r_assign (hA.ev rfl)) ?_; clear hA a; intro a hA
     refine wpList_nil ?_
     refine hk9 _ _ ?_
     clear hk9 k9
     replace hA := hA.keep (.cons (i := 2) rfl .nil)
     refine wp_ret ?_
     refine end1 hA rfl rfl ?_
     obtain rfl : i = r := by omega
     rw [Int.toNat_natCast] at hS ⊢
     exact ⟨_, _, rfl, hS.nilTo [_]⟩
set_option maxRecDepth 100000 in
set_option maxHeartbeats 1000000 in
theorem RefLeast_calls (W : World) (r : Nat) (s : Int) (BA : Option Addr) (bc : Nat) (bk : List (Int × Int)) (hR : Rd W 2 (.slice BA bk.length bc) bk.length (bk.flatMap encT)) (hb : bk.length ≤ 140737488355328) (hr : r ≤ 16) : Calls Try.prog 78 #[.agg #[.int .i64 r, .int .i64 s, .slice BA bk.length bc]] W fun e w' => e = .returned (.tuple #[.int .i64 (minL (othersF r s bk)), .bool (decide (0 < (othersF r s bk).length))]) ∧ Sat W w' [] := by
  refine enter Try.func78 rfl rfl rfl (.cons (i := 0) rfl .nil) ?_
  intro a hA
  have hS := Sat.start W
  refine wp_seq_k fun k1 hk1 => ?_
  refine wp_region_lit ?_
  refine goB hA rfl rfl hS ?_
  clear hA a hS; intro b1 w hS a hA
  refine go1 hA rfl rfl rfl (r_assign (hA.ev rfl)) ?_; clear hA a; intro a hA
  refine go1 hA rfl rfl rfl (r_assign (hA.ev rfl)) ?_; clear hA a; intro a hA
  refine wpList_nil ?_
  refine hk1 _ _ ?_
  clear hk1 k1
  replace hA := hA.keep (.cons (i := 1) rfl (.cons (i := 2) rfl (.cons (i := 3) rfl .nil)))
  refine wp_seq_k fun k2 hk2 => ?_
  refine wp_region_lit ?_
  refine go1 hA rfl rfl rfl (r_assign (hA.ev rfl)) ?_; clear hA a; intro a hA
  refine go1 hA rfl rfl rfl (r_assign (hA.ev rfl)) ?_; clear hA a; intro a hA
  refine wpList_nil ?_
  refine hk2 _ _ ?_
  clear hk2 k2
  refine wp_seq_k fun k3 hk3 => ?_
  refine wp_seq_k fun k4 hk4 => ?_
  refine wp_region_lit ?_
  refine go1 hA rfl rfl rfl (r_assign (hA.ev rfl)) ?_; clear hA a; intro a hA
  refine wpList_nil ?_
  refine hk4 _ _ ?_
  clear hk4 k4
  refine wp_block ?_
  refine wp_loop_ghost (fun (mm : Nat) a w => ∃ (l : List Int) (i : Int), Ag a 31 [(1, .pointer (some ⟨b1, 0, none⟩)), (4, .int .i64 (minL l)), (5, .bool (decide (0 < l.length))), (6, .int .i64 i)] ∧ Sat W w ([pto b1 (.cells #[.int .i64 r, .int .i64 s, .slice BA bk.length bc] 70)]) ∧ (0 ≤ i) ∧ (i ≤ r) ∧ (l = othersF i.toNat s bk) ∧ mm = (r - i).toNat) r ?_ ?_
  · replace hA := hA.keep (.cons (i := 1) rfl (.cons (i := 4) rfl (.cons (i := 5) rfl (.cons (i := 6) rfl .nil))))
    exact ⟨[], _, hA, hS, (by omega), (by omega), (by rfl), by omega⟩
  intro m a w hI
  clear hS hA; obtain ⟨l, i, hA, hS, hi0, hi1, hl, rfl⟩ := hI
  refine wp_seq_k fun k5 hk5 => ?_
  refine wp_seq_k fun k6 hk6 => ?_
  refine wp_region_lit ?_
  refine go1 hA rfl rfl rfl (r_move (hA.ev rfl)) ?_; clear hA a; intro a hA
  refine go1 hA rfl rfl rfl (r_field (hA.ev rfl) T.fo70_0) ?_; clear hA a; intro a hA
  refine go1 hA rfl rfl rfl (r_load (hA.ev rfl) T.fl3 (by first | exact hS.cell rfl | exact (hS.p 1).cell rfl)) ?_; clear hA a; intro a hA
  refine go1s hA rfl rfl rfl (r_lss (hA.ev rfl) (hA.ev rfl)) ?_ ?_
  · clear hA a; intro h11 a hA
    try (first | contradiction | (exfalso; omega) | (exfalso; simp at h11; done))
    all_goals
     skip
     refine wpList_nil ?_
     refine hk6 _ _ ?_
     clear hk6 k6
     refine wp_cond_true (hA.ev rfl) ?_
     refine wp_skip ?_
     refine hk5 _ _ ?_
     clear hk5 k5
     refine wp_seq_k fun k7 hk7 => ?_
     refine wp_block ?_
     refine wp_seq_k fun k8 hk8 => ?_
     refine wp_seq_k fun k9 hk9 => ?_
     refine wp_region_lit ?_
     refine go1 hA rfl rfl rfl (r_move (hA.ev rfl)) ?_; clear hA a; intro a hA
     refine go1 hA rfl rfl rfl (r_field (hA.ev rfl) T.fo70_1) ?_; clear hA a; intro a hA
     refine go1 hA rfl rfl rfl (r_load (hA.ev rfl) T.fl3 (by first | exact hS.cell rfl | exact (hS.p 1).cell rfl)) ?_; clear hA a; intro a hA
     refine go1s hA rfl rfl rfl (r_eql (hA.ev rfl) (hA.ev rfl)) ?_ ?_
     · clear hA a; intro h17 a hA
       try (first | contradiction | (exfalso; omega) | (exfalso; simp at h17; done))
       all_goals
        skip
        refine wpList_nil ?_
        refine hk9 _ _ ?_
        clear hk9 k9
        refine wp_cond_true (hA.ev rfl) ?_
        refine wp_exit ?_
        refine then_exit ?_; clear hk8 k8
        refine block_hit ?_
        refine hk7 _ _ ?_
        clear hk7 k7
        refine wp_region_lit ?_
        refine go1 hA rfl rfl rfl (r_move (hA.ev rfl)) ?_; clear hA a; intro a hA
        refine go1 hA rfl rfl rfl (r_add64 (hA.ev rfl) (hA.ev rfl) (by omega) (by omega)) ?_; clear hA a; intro a hA
        refine go1 hA rfl rfl rfl (r_assign (hA.ev rfl)) ?_; clear hA a; intro a hA
        refine wpList_nil ?_
        replace hA := hA.keep (.cons (i := 1) rfl (.cons (i := 4) rfl (.cons (i := 5) rfl (.cons (i := 6) rfl .nil))))
        have hn : othersF (i + 1).toNat s bk = if i = s then l else l ++ [numB bk i] := by rw [show (i + 1).toNat = i.toNat + 1 from by omega, othersF_succ, show ((i.toNat : Nat) : Int) = i from by omega, hl]
        have e1 : decide (0 < (l ++ [numB bk i]).length) = true := by simp
        have e2 := minL_app l (numB bk i)
        first
          | (rw [if_pos (by omega)] at hn; exact ⟨(r - (i + 1)).toNat, by omega, l, i + 1, hA, hS, by omega, by omega, hn.symm, rfl⟩)
          | (rw [if_neg (by omega)] at hn; have e4 : numB bk i = minL (l ++ [numB bk i]) := (by (first | rw [if_pos (by omega)] at e2 | rw [if_neg (by omega)] at e2); omega); rw [e4] at hA; rw [← e1] at hA; exact ⟨(r - (i + 1)).toNat, by omega, _, i + 1, hA, hS, by omega, by omega, hn.symm, rfl⟩)
          | (rw [if_neg (by omega)] at hn; have e4 : minL l = minL (l ++ [numB bk i]) := (by (first | rw [if_pos (by omega)] at e2 | rw [if_neg (by omega)] at e2); omega); rw [e4] at hA; rw [← e1] at hA; exact ⟨(r - (i + 1)).toNat, by omega, _, i + 1, hA, hS, by omega, by omega, hn.symm, rfl⟩)
     · clear hA a; intro h17 a hA
       try (first | contradiction | (exfalso; omega) | (exfalso; simp at h17; done))
       all_goals
        skip
        refine wpList_nil ?_
        refine hk9 _ _ ?_
        clear hk9 k9
        refine wp_cond_false (hA.ev rfl) ?_
        refine wp_skip ?_
        refine hk8 _ _ ?_
        clear hk8 k8
        refine wp_seq_k fun k10 hk10 => ?_
        refine wp_region_lit ?_
        refine go1 hA rfl rfl rfl (r_loadS (cs := [_, _, _]) (hA.ev rfl) T.ag70 T.sz70 (by first | exact hS.cellsAt (xs := [_, _, _]) rfl | exact (hS.p 1).cellsAt (xs := [_, _, _]) rfl)) ?_; clear hA a; intro a hA
        refine go1 hA rfl rfl rfl (r_move (hA.ev rfl)) ?_; clear hA a; intro a hA
        refine goF hA rfl T.en79 rfl (Number_calls w r s BA bc bk i (hR.sat hS) hb) ?_
        clear hA a; rintro e w ⟨rfl, hT⟩; replace hS : Sat _ _ _ := hS.rebase hT; clear hT
        refine ⟨_, rfl, ?_⟩; intro a hA
        refine go1 hA rfl rfl rfl (r_assign (hA.ev rfl)) ?_; clear hA a; intro a hA
        refine wpList_nil ?_
        refine hk10 _ _ ?_
        clear hk10 k10
        refine wp_seq_k fun k11 hk11 => ?_
        refine wp_seq_k fun k12 hk12 => ?_
        refine wp_region_lit ?_
        refine go1b hA rfl rfl rfl (r_move (hA.ev rfl)) ?_ ?_
        · clear hA a; intro h21 a hA
          try simp only [decide_eq_decide, decide_eq_true_eq, decide_eq_false_iff_not, Bool.not_eq_true', Bool.not_eq_false', bne_iff_ne, ne_eq, beq_iff_eq, Bool.not_eq_true, Bool.not_eq_false] at h21
          try (first | contradiction | (exfalso; omega) | (exfalso; simp at h21; done))
          all_goals
           skip
           refine go1 hA rfl rfl rfl (r_not (hA.ev rfl)) ?_; clear hA a; intro a hA
           refine go1 hA rfl rfl rfl (r_move (hA.ev rfl)) ?_; clear hA a; intro a hA
           refine go1y hA (wanted_yes hA rfl rfl rfl) rfl rfl (r_move (hA.ev rfl)) ?_; clear hA a; intro a hA
           refine go1y hA (wanted_yes hA rfl rfl rfl) rfl rfl (r_move (hA.ev rfl)) ?_; clear hA a; intro a hA
           refine go1sy hA (wanted_yes hA rfl rfl rfl) rfl rfl (r_lss (hA.ev rfl) (hA.ev rfl)) ?_ ?_
           · clear hA a; intro h26 a hA
             try (first | contradiction | (exfalso; omega) | (exfalso; simp at h26; done))
             all_goals
              skip
              refine go1 hA rfl rfl rfl (r_pick_f (hA.ev rfl) (hA.ev rfl)) ?_; clear hA a; intro a hA
              refine wpList_nil ?_
              refine hk12 _ _ ?_
              clear hk12 k12
              refine wp_cond_true (hA.ev rfl) ?_
              refine wp_region_lit ?_
              refine go1 hA rfl rfl rfl (r_move (hA.ev rfl)) ?_; clear hA a; intro a hA
              refine go1 hA rfl rfl rfl (r_assign (hA.ev rfl)) ?_; clear hA a; intro a hA
              refine wpList_nil ?_
              refine hk11 _ _ ?_
              clear hk11 k11
              refine wp_region_lit ?_
              refine go1 hA rfl rfl rfl (r_assign (hA.ev rfl)) ?_; clear hA a; intro a hA
              refine wpList_nil ?_
              refine block_normal ?_
              refine hk7 _ _ ?_
              clear hk7 k7
              refine wp_region_lit ?_
              refine go1 hA rfl rfl rfl (r_move (hA.ev rfl)) ?_; clear hA a; intro a hA
              refine go1 hA rfl rfl rfl (r_add64 (hA.ev rfl) (hA.ev rfl) (by omega) (by omega)) ?_; clear hA a; intro a hA
              refine go1 hA rfl rfl rfl (r_assign (hA.ev rfl)) ?_; clear hA a; intro a hA
              refine wpList_nil ?_
              replace hA := hA.keep (.cons (i := 1) rfl (.cons (i := 4) rfl (.cons (i := 5) rfl (.cons (i := 6) rfl .nil))))
              have hn : othersF (i + 1).toNat s bk = if i = s then l else l ++ [numB bk i] := by rw [show (i + 1).toNat = i.toNat + 1 from by omega, othersF_succ, show ((i.toNat : Nat) : Int) = i from by omega, hl]
              have e1 : decide (0 < (l ++ [numB bk i]).length) = true := by simp
              have e2 := minL_app l (numB bk i)
              first
                | (rw [if_pos (by omega)] at hn; exact ⟨(r - (i + 1)).toNat, by omega, l, i + 1, hA, hS, by omega, by omega, hn.symm, rfl⟩)
                | (rw [if_neg (by omega)] at hn; have e4 : numB bk i = minL (l ++ [numB bk i]) := (by (first | rw [if_pos (by omega)] at e2 | rw [if_neg (by omega)] at e2); omega); rw [e4] at hA; rw [← e1] at hA; exact ⟨(r - (i + 1)).toNat, by omega, _, i + 1, hA, hS, by omega, by omega, hn.symm, rfl⟩)
                | (rw [if_neg (by omega)] at hn; have e4 : minL l = minL (l ++ [numB bk i]) := (by (first | rw [if_pos (by omega)] at e2 | rw [if_neg (by omega)] at e2); omega); rw [e4] at hA; rw [← e1] at hA; exact ⟨(r - (i + 1)).toNat, by omega, _, i + 1, hA, hS, by omega, by omega, hn.symm, rfl⟩)
           · clear hA a; intro h26 a hA
             try (first | contradiction | (exfalso; omega) | (exfalso; simp at h26; done))
             all_goals
              skip
              refine go1 hA rfl rfl rfl (r_pick_f (hA.ev rfl) (hA.ev rfl)) ?_; clear hA a; intro a hA
              refine wpList_nil ?_
              refine hk12 _ _ ?_
              clear hk12 k12
              refine wp_cond_false (hA.ev rfl) ?_
              refine wp_skip ?_
              refine hk11 _ _ ?_
              clear hk11 k11
              refine wp_region_lit ?_
              refine go1 hA rfl rfl rfl (r_assign (hA.ev rfl)) ?_; clear hA a; intro a hA
              refine wpList_nil ?_
              refine block_normal ?_
              refine hk7 _ _ ?_
              clear hk7 k7
              refine wp_region_lit ?_
              refine go1 hA rfl rfl rfl (r_move (hA.ev rfl)) ?_; clear hA a; intro a hA
              refine go1 hA rfl rfl rfl (r_add64 (hA.ev rfl) (hA.ev rfl) (by omega) (by omega)) ?_; clear hA a; intro a hA
              refine go1 hA rfl rfl rfl (r_assign (hA.ev rfl)) ?_; clear hA a; intro a hA
              refine wpList_nil ?_
              replace hA := hA.keep (.cons (i := 1) rfl (.cons (i := 4) rfl (.cons (i := 5) rfl (.cons (i := 6) rfl .nil))))
              have hn : othersF (i + 1).toNat s bk = if i = s then l else l ++ [numB bk i] := by rw [show (i + 1).toNat = i.toNat + 1 from by omega, othersF_succ, show ((i.toNat : Nat) : Int) = i from by omega, hl]
              have e1 : decide (0 < (l ++ [numB bk i]).length) = true := by simp
              have e2 := minL_app l (numB bk i)
              first
                | (rw [if_pos (by omega)] at hn; exact ⟨(r - (i + 1)).toNat, by omega, l, i + 1, hA, hS, by omega, by omega, hn.symm, rfl⟩)
                | (rw [if_neg (by omega)] at hn; have e4 : numB bk i = minL (l ++ [numB bk i]) := (by (first | rw [if_pos (by omega)] at e2 | rw [if_neg (by omega)] at e2); omega); rw [e4] at hA; rw [← e1] at hA; exact ⟨(r - (i + 1)).toNat, by omega, _, i + 1, hA, hS, by omega, by omega, hn.symm, rfl⟩)
                | (rw [if_neg (by omega)] at hn; have e4 : minL l = minL (l ++ [numB bk i]) := (by (first | rw [if_pos (by omega)] at e2 | rw [if_neg (by omega)] at e2); omega); rw [e4] at hA; rw [← e1] at hA; exact ⟨(r - (i + 1)).toNat, by omega, _, i + 1, hA, hS, by omega, by omega, hn.symm, rfl⟩)
        · clear hA a; intro h21 a hA
          try simp only [decide_eq_decide, decide_eq_true_eq, decide_eq_false_iff_not, Bool.not_eq_true', Bool.not_eq_false', bne_iff_ne, ne_eq, beq_iff_eq, Bool.not_eq_true, Bool.not_eq_false] at h21
          try (first | contradiction | (exfalso; omega) | (exfalso; simp at h21; done))
          all_goals
           skip
           refine go1 hA rfl rfl rfl (r_not (hA.ev rfl)) ?_; clear hA a; intro a hA
           refine go1 hA rfl rfl rfl (r_move (hA.ev rfl)) ?_; clear hA a; intro a hA
           refine goS hA (wanted_no hA rfl rfl rfl rfl) rfl rfl ?_; clear hA a; intro a hA
           refine goS hA (wanted_no hA rfl rfl rfl rfl) rfl rfl ?_; clear hA a; intro a hA
           refine goS hA (wanted_no hA rfl rfl rfl rfl) rfl rfl ?_; clear hA a; intro a hA
           refine go1 hA rfl rfl rfl (r_pick_t (hA.ev rfl) (hA.ev rfl)) ?_; clear hA a; intro a hA
           refine wpList_nil ?_
           refine hk12 _ _ ?_
           clear hk12 k12
           refine wp_cond_true (hA.ev rfl) ?_
           refine wp_region_lit ?_
           refine go1 hA rfl rfl rfl (r_move (hA.ev rfl)) ?_; clear hA a; intro a hA
           refine go1 hA rfl rfl rfl (r_assign (hA.ev rfl)) ?_; clear hA a; intro a hA
           refine wpList_nil ?_
           refine hk11 _ _ ?_
           clear hk11 k11
           refine wp_region_lit ?_
           refine go1 hA rfl rfl rfl (r_assign (hA.ev rfl)) ?_; clear hA a; intro a hA
           refine wpList_nil ?_
           refine block_normal ?_
           refine hk7 _ _ ?_
           clear hk7 k7
           refine wp_region_lit ?_
           refine go1 hA rfl rfl rfl (r_move (hA.ev rfl)) ?_; clear hA a; intro a hA
           refine go1 hA rfl rfl rfl (r_add64 (hA.ev rfl) (hA.ev rfl) (by omega) (by omega)) ?_; clear hA a; intro a hA
           refine go1 hA rfl rfl rfl (r_assign (hA.ev rfl)) ?_; clear hA a; intro a hA
           refine wpList_nil ?_
           replace hA := hA.keep (.cons (i := 1) rfl (.cons (i := 4) rfl (.cons (i := 5) rfl (.cons (i := 6) rfl .nil))))
           have hn : othersF (i + 1).toNat s bk = if i = s then l else l ++ [numB bk i] := by rw [show (i + 1).toNat = i.toNat + 1 from by omega, othersF_succ, show ((i.toNat : Nat) : Int) = i from by omega, hl]
           have e1 : decide (0 < (l ++ [numB bk i]).length) = true := by simp
           have e2 := minL_app l (numB bk i)
           first
             | (rw [if_pos (by omega)] at hn; exact ⟨(r - (i + 1)).toNat, by omega, l, i + 1, hA, hS, by omega, by omega, hn.symm, rfl⟩)
             | (rw [if_neg (by omega)] at hn; have e4 : numB bk i = minL (l ++ [numB bk i]) := (by (first | rw [if_pos (by omega)] at e2 | rw [if_neg (by omega)] at e2); omega); rw [e4] at hA; rw [← e1] at hA; exact ⟨(r - (i + 1)).toNat, by omega, _, i + 1, hA, hS, by omega, by omega, hn.symm, rfl⟩)
             | (rw [if_neg (by omega)] at hn; have e4 : minL l = minL (l ++ [numB bk i]) := (by (first | rw [if_pos (by omega)] at e2 | rw [if_neg (by omega)] at e2); omega); rw [e4] at hA; rw [← e1] at hA; exact ⟨(r - (i + 1)).toNat, by omega, _, i + 1, hA, hS, by omega, by omega, hn.symm, rfl⟩)
  · clear hA a; intro h11 a hA
    try (first | contradiction | (exfalso; omega) | (exfalso; simp at h11; done))
    all_goals
     skip
     refine wpList_nil ?_
     refine hk6 _ _ ?_
     clear hk6 k6
     refine wp_cond_false (hA.ev rfl) ?_
     refine wp_exit ?_
     refine then_exit ?_; clear hk5 k5
     refine then_exit ?_
     refine block_hit ?_
     refine hk3 _ _ ?_
     clear hk3 k3
     replace hA := hA.keep (.cons (i := 4) rfl (.cons (i := 5) rfl .nil))
     refine wp_seq_k fun k13 hk13 => ?_
     refine wp_region_lit ?_
     refine go1 hA rfl rfl rfl (r_move (hA.ev rfl)) ?_; clear hA a; intro a hA
     refine go1 hA rfl rfl rfl (r_move (hA.ev rfl)) ?_; clear hA a; intro a hA
     refine go1 hA rfl rfl rfl (r_assign (hA.ev rfl)) ?_; clear hA a; intro a hA
     refine go1 hA rfl rfl rfl (r_assign (hA.ev rfl)) ?_; clear hA a; intro a hA
     refine wpList_nil ?_
     refine hk13 _ _ ?_
     clear hk13 k13
     replace hA := hA.keep (.cons (i := 2) rfl (.cons (i := 3) rfl .nil))
     refine wp_ret ?_
     refine end2 hA rfl rfl rfl ?_
     obtain rfl : i = r := by omega
     rw [Int.toNat_natCast] at hl
     subst hl
     exact ⟨rfl, hS.nil⟩
end Go.Proofs.Ytmooogahfkgljaa.Wk
