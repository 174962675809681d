/- The walks of mail.Put, Size and barrowref18.num, Put: the mail's bytes. Conditions: at most 10 to the 12 bytes. -/
import Derived.Test.YtfbdcllbgfohdaaPMail2
import Derived.Test.YtfbdcllbgfohdaaWkWire11
import Derived.Test.YtfbdcllbgfohdaaWkWire9
import Derived.Test.YtfbdcllbgfohdaaWkWire6
set_option linter.unusedVariables false
set_option linter.unusedSimpArgs false
namespace Go.Proofs.Ytfbdcllbgfohdaa.Wk
open Go Go.RowKit Go.Proofs.Ytfbdcllbgfohdaa Go.Proofs.Ytfbdcllbgfohdaa.K
set_option maxRecDepth 100000 in
set_option maxHeartbeats 1000000 in
theorem num_calls (W w : World) (L : List As) (A : Option Addr) (c : Nat) (bs : List UInt8) (v : Nat) (hS : Sat W w (row 5 1 (.slice A (bs).length c) (bs).length ((bs).map bcell) :: L)) (hv : v ≤ 9223372036854775807) (hb : bs.length ≤ 140737488355000) : Calls Try.prog 52 #[.slice A bs.length c, .int .i64 ((v : Nat) : Int)] w fun e w' => ∃ A' c', e = .returned (.slice A' (bs ++ numL v).length c') ∧ Sat W w' (row 5 1 (.slice A' (bs ++ numL v).length c') (bs ++ numL v).length ((bs ++ numL v).map bcell) :: L) := by
  refine enter Try.func52 rfl rfl rfl (.cons (i := 0) rfl (.cons (i := 1) rfl .nil)) ?_
  intro a hA
  have h9 := numL_nine hv
  refine wp_seq_k fun k1 hk1 => ?_
  refine wp_region_lit ?_
  refine go1 hA rfl rfl rfl (r_assign (hA.ev rfl)) ?_; clear hA a; intro a hA
  refine wpList_nil ?_
  refine hk1 _ _ ?_
  clear hk1 k1
  refine wp_seq_k fun k2 hk2 => ?_
  refine wp_region_lit ?_
  refine go1 hA rfl rfl rfl (r_move (hA.ev rfl)) ?_; clear hA a; intro a hA
  refine goF hA rfl T.en71 rfl (RefNum_calls _ v hv) ?_
  clear hA a; rintro e w ⟨A5, c5, rfl, hT⟩; replace hS := hS.rebase1 hT; clear hT
  refine ⟨_, rfl, ?_⟩; intro a hA
  refine go1 hA rfl rfl rfl (r_assign (hA.ev rfl)) ?_; clear hA a; intro a hA
  refine wpList_nil ?_
  refine hk2 _ _ ?_
  clear hk2 k2
  replace hA := hA.keep (.cons (i := 0) rfl (.cons (i := 4) rfl (.cons (i := 5) rfl .nil)))
  refine wp_seq_k fun k3 hk3 => ?_
  refine wp_seq_k fun k4 hk4 => ?_
  refine wp_region_lit ?_
  refine go1 hA rfl rfl rfl (r_assign (hA.ev rfl)) ?_; clear hA a; intro a hA
  refine wpList_nil ?_
  refine hk4 _ _ ?_
  clear hk4 k4
  refine wp_block ?_
  refine wp_loop_ghost (fun (mm : Nat) a w => ∃ (A' : Option Addr) (c' i : Nat), Ag a 23 [(0, .slice A' (bs ++ (numL v).take i).length c'), (5, .slice A5 (numL v).length c5), (6, .int .i64 ((i : Nat) : Int))] ∧ Sat W w (row 5 1 (.slice A' ((bs ++ (numL v).take i)).length c') ((bs ++ (numL v).take i)).length (((bs ++ (numL v).take i)).map bcell) :: row 5 1 (.slice A5 (numL v).length c5) (numL v).length ((numL v).map bcell) :: L) ∧ (i ≤ (numL v).length) ∧ mm = (numL v).length - i) (numL v).length ?_ ?_
  · replace hA := hA.keep (.cons (i := 0) rfl (.cons (i := 5) rfl (.cons (i := 6) rfl .nil)))
    rw [show bs = bs ++ (numL v).take 0 from by simp] at hS hA
    exact ⟨A, c, 0, hA, (hS.p 1), (by omega), by omega⟩
  intro m a w hI
  clear hS hA; obtain ⟨A', c', i, hA, hS, hi, rfl⟩ := hI
  refine wp_seq_k fun k5 hk5 => ?_
  refine wp_seq_k fun k6 hk6 => ?_
  refine wp_region_lit ?_
  refine go1 hA rfl rfl rfl (r_move (hA.ev rfl)) ?_; clear hA a; intro a hA
  refine go1 hA rfl rfl rfl (r_move (hA.ev rfl)) ?_; clear hA a; intro a hA
  refine go1 hA rfl rfl rfl (r_lens (hA.ev rfl) T.un34) ?_; clear hA a; intro a hA
  refine go1s hA rfl rfl rfl (r_lss (hA.ev rfl) (hA.ev rfl)) ?_ ?_
  · clear hA a; intro h12 a hA
    try (first | contradiction | (exfalso; omega) | (exfalso; simp at h12; done))
    all_goals
     skip
     refine wpList_nil ?_
     refine hk6 _ _ ?_
     clear hk6 k6
     refine wp_cond_true (hA.ev rfl) ?_
     refine wp_skip ?_
     refine hk5 _ _ ?_
     clear hk5 k5
     refine wp_seq_k fun k7 hk7 => ?_
     refine wp_block ?_
     refine wp_region_lit ?_
     refine go1 hA rfl rfl rfl (r_move (hA.ev rfl)) ?_; clear hA a; intro a hA
     refine go1 hA rfl rfl rfl (r_move (hA.ev rfl)) ?_; clear hA a; intro a hA
     refine go1 hA rfl rfl rfl (r_move (hA.ev rfl)) ?_; clear hA a; intro a hA
     obtain ⟨A5_p, rfl⟩ : ∃ q, A5 = some q := (hS.p 1).rd.hasAddr (by omega)
     obtain ⟨x, hx⟩ : ∃ x, (numL v)[(i : Int).toNat]? = some x := ⟨_, List.getElem?_eq_getElem (by omega)⟩
     refine go1 hA rfl rfl rfl (r_index (hA.ev rfl) (hA.ev rfl) T.un34 T.sz5 (by omega) (by omega)) ?_; clear hA a; intro a hA
     refine go1 hA rfl rfl rfl (r_load (hA.ev rfl) T.fl5 (rdl (hS.p 1).rd (map_at hx))) ?_; clear hA a; intro a hA
     refine goL hA rfl rfl T.un34 T.el5 rfl rfl rfl (bcells_one [x]) hS ?_
     clear hA a hS; intro A20 w hS a hA
     refine goA' hA rfl rfl rfl T.un34 T.el5 rfl (hS.p 1) (hS.rd.src T.un34 (by simp [bcell, Value.oneCell'])) (by simp; omega) (by simp; omega) ?_
     clear hA a hS; intro A21 c21 w hc21 hS a hA
     have hx' : (numL v)[i]? = some x := hx
     have e1 : (bs ++ (numL v).take i) ++ [x] = bs ++ (numL v).take (i + 1) := by rw [List.take_add_one, hx']; simp
     have e2 : (bs ++ (numL v).take i).length + 1 = (bs ++ (numL v).take (i + 1)).length := by rw [← e1]; simp; omega
     change Sat W w (row 5 1 (.slice A21 ((bs ++ (numL v).take i).length + 1) c21) ((bs ++ (numL v).take i).length + 1) ((bs ++ (numL v).take i).map bcell ++ [x].map bcell) :: _) at hS
     rw [e2, ← List.map_append, e1] at hS
     rw [e2] at hA
     refine go1 hA rfl rfl rfl (r_assign (hA.ev rfl)) ?_; clear hA a; intro a hA
     refine wpList_nil ?_
     refine block_normal ?_
     refine hk7 _ _ ?_
     clear hk7 k7
     refine wp_region_lit ?_
     refine go1 hA rfl rfl rfl (r_move (hA.ev rfl)) ?_; clear hA a; intro a hA
     refine go1 hA rfl rfl rfl (r_add64 (hA.ev rfl) (hA.ev rfl) (by omega) (by omega)) ?_; clear hA a; intro a hA
     refine go1 hA rfl rfl rfl (r_assign (hA.ev rfl)) ?_; clear hA a; intro a hA
     refine wpList_nil ?_
     replace hA := hA.keep (.cons (i := 0) rfl (.cons (i := 5) rfl (.cons (i := 6) rfl .nil)))
     refine ⟨_, ?_, _, _, i + 1, hA, (((hS.p 2).p 1).p 2).drop, (by omega), rfl⟩
     omega
  · clear hA a; intro h12 a hA
    try (first | contradiction | (exfalso; omega) | (exfalso; simp at h12; done))
    all_goals
     skip
     refine wpList_nil ?_
     refine hk6 _ _ ?_
     clear hk6 k6
     refine wp_cond_false (hA.ev rfl) ?_
     refine wp_exit ?_
     refine then_exit ?_; clear hk5 k5
     refine then_exit ?_
     refine block_hit ?_
     refine hk3 _ _ ?_
     clear hk3 k3
     replace hA := hA.keep (.cons (i := 0) rfl .nil)
     refine wp_seq_k fun k8 hk8 => ?_
     refine wp_region_lit ?_
     refine go1 hA rfl rfl rfl (r_move (hA.ev rfl)) ?_; clear hA a; intro a hA
     refine go1 hA rfl rfl rfl (r_assign (hA.ev rfl)) ?_; clear hA a; intro a hA
     refine wpList_nil ?_
     refine hk8 _ _ ?_
     clear hk8 k8
     replace hA := hA.keep (.cons (i := 4) rfl .nil)
     refine wp_ret ?_
     refine end1 hA rfl rfl ?_
     have hti : (numL v).take i = numL v := List.take_of_length_le (by omega)
     rw [hti] at hS hA ⊢
     exact ⟨_, _, rfl, (hS.p 1).drop⟩
set_option maxRecDepth 100000 in
set_option maxHeartbeats 1000000 in
theorem Put_calls (W : World) (k f t lo hi : Int) (A : Option Addr) (c : Nat) (ps : List PartW) (hR : Rd W 2 (.slice A ps.length c) ps.length (ps.flatMap encW)) (hlen : ps.length ≤ 1000000000000) (hB : BodW W ps) (hbk : partsZ ps ≤ 1000000000000) : Calls Try.prog 27 #[.agg #[.int .i64 k, .int .i64 f, .int .i64 t, .int .i64 lo, .int .i64 hi, .slice A ps.length c]] W fun e w' => ((FormC k f t lo hi (ps.map PartW.cart)) ∧ ∃ A' c', e = .returned (.tuple #[.slice A' (mailB (MailV.mk k f t lo hi (ps.map PartW.val))).length c', .int .i64 0]) ∧ Sat W w' [row 5 1 (.slice A' (mailB (MailV.mk k f t lo hi (ps.map PartW.val))).length c') (mailB (MailV.mk k f t lo hi (ps.map PartW.val))).length ((mailB (MailV.mk k f t lo hi (ps.map PartW.val))).map bcell)]) ∨ (¬ (FormC k f t lo hi (ps.map PartW.cart)) ∧ e = .returned (.tuple #[.slice none 0 0, .int .i64 1]) ∧ Sat W w' []) := by
  refine enter Try.func27 rfl rfl rfl (.cons (i := 0) rfl .nil) ?_
  intro a hA
  have hS := Sat.start W
  have hpz := partsZ_len ps
  refine wp_seq_k fun k1 hk1 => ?_
  refine wp_region_lit ?_
  refine goB hA rfl rfl hS ?_
  clear hA a hS; intro b1 w hS a hA
  refine go1 hA rfl rfl rfl (r_assign (hA.ev rfl)) ?_; clear hA a; intro a hA
  refine go1 hA rfl rfl rfl (r_assign (hA.ev rfl)) ?_; clear hA a; intro a hA
  refine wpList_nil ?_
  refine hk1 _ _ ?_
  clear hk1 k1
  replace hA := hA.keep (.cons (i := 1) rfl (.cons (i := 2) rfl (.cons (i := 3) rfl .nil)))
  refine wp_seq_k fun k2 hk2 => ?_
  refine wp_seq_k fun k3 hk3 => ?_
  refine wp_region_lit ?_
  refine go1 hA rfl rfl rfl (r_loadS (cs := [_, _, _, _, _, _]) (hA.ev rfl) T.ag24 T.sz24 (by first | exact hS.cellsAt (xs := [_, _, _, _, _, _]) rfl | exact (hS.p 1).cellsAt (xs := [_, _, _, _, _, _]) rfl | exact (hS.p 2).cellsAt (xs := [_, _, _, _, _, _]) rfl | exact (hS.p 3).cellsAt (xs := [_, _, _, _, _, _]) rfl | exact (hS.p 4).cellsAt (xs := [_, _, _, _, _, _]) rfl | exact (hS.p 5).cellsAt (xs := [_, _, _, _, _, _]) rfl)) ?_; clear hA a; intro a hA
  refine goF hA rfl T.en16 rfl (CheckW _ k f t lo hi A c ps (hR.sat hS) (by omega)) ?_
  clear hA a; rintro e w ⟨er, rfl, hF, hT⟩; replace hS : Sat _ _ (_ :: _) := hS.rebase hT; clear hT
  refine ⟨_, rfl, ?_⟩; intro a hA
  refine go1s hA rfl rfl rfl (r_neq (hA.ev rfl) (hA.ev rfl)) ?_ ?_
  · clear hA a; intro h11 a hA
    try (first | contradiction | (exfalso; omega) | (exfalso; simp at h11; done))
    all_goals
     skip
     refine wpList_nil ?_
     refine hk3 _ _ ?_
     clear hk3 k3
     replace hA := hA.keep (.cons (i := 1) rfl (.cons (i := 2) rfl (.cons (i := 3) rfl (.cons (i := 11) rfl .nil))))
     refine wp_cond_true (hA.ev rfl) ?_
     refine wp_seq_k fun k4 hk4 => ?_
     refine wp_region_lit ?_
     refine go1 hA rfl rfl rfl (r_assign (hA.ev rfl)) ?_; clear hA a; intro a hA
     refine go1 hA rfl rfl rfl (r_assign (hA.ev rfl)) ?_; clear hA a; intro a hA
     refine wpList_nil ?_
     refine hk4 _ _ ?_
     clear hk4 k4
     replace hA := hA.keep (.cons (i := 1) rfl (.cons (i := 2) rfl (.cons (i := 3) rfl .nil)))
     refine wp_ret ?_
     refine then_ret ?_; clear hk2 k2
     refine end2 hA rfl rfl rfl ?_
     exact .inr ⟨by rcases hF with ⟨h, _⟩ | ⟨_, h⟩; omega; exact h, rfl, Sat.none_ hS⟩
  · clear hA a; intro h11 a hA
    obtain ⟨her, hF⟩ : er = 0 ∧ (FormC k f t lo hi (ps.map PartW.cart)) := by rcases hF with h | ⟨h, _⟩; exact h; omega
    obtain ⟨hf0, hf1, ht0, ht1, hft, hI, hG⟩ := id hF
    unfold Wm.Itv at hI
    have hnn : 0 ≤ k ∧ k ≤ 6 ∧ 0 ≤ lo ∧ lo ≤ 4611686018427387904 ∧ 0 ≤ hi ∧ hi ≤ 4611686018427387904 := by simp only [List.length_map] at hI; omega
    clear hI
    have hcs := goodC_in hG
    have hHD : ∀ x ∈ [k, f, t, lo, hi, (ps.length : Int)], 0 ≤ x ∧ x ≤ 9223372036854775807 := by simp; omega
    try (first | contradiction | (exfalso; omega) | (exfalso; simp at h11; done))
    all_goals
     skip
     refine wpList_nil ?_
     refine hk3 _ _ ?_
     clear hk3 k3
     replace hA := hA.keep (.cons (i := 1) rfl (.cons (i := 2) rfl (.cons (i := 3) rfl (.cons (i := 11) rfl .nil))))
     refine wp_cond_false (hA.ev rfl) ?_
     refine wp_skip ?_
     refine hk2 _ _ ?_
     clear hk2 k2
     replace hA := hA.keep (.cons (i := 1) rfl (.cons (i := 2) rfl (.cons (i := 3) rfl .nil)))
     refine wp_seq_k fun k5 hk5 => ?_
     refine wp_region_lit ?_
     refine goF hA rfl T.en48 rfl (NewWriter_calls _) ?_
     clear hA a; rintro e w ⟨p, rfl, hT⟩; replace hS := hS.rebase1 hT; clear hT
     refine ⟨_, rfl, ?_⟩; intro a hA
     refine go1 hA rfl rfl rfl (r_assign (hA.ev rfl)) ?_; clear hA a; intro a hA
     refine wpList_nil ?_
     refine hk5 _ _ ?_
     clear hk5 k5
     replace hA := hA.keep (.cons (i := 1) rfl (.cons (i := 2) rfl (.cons (i := 3) rfl (.cons (i := 4) rfl .nil))))
     refine wp_seq_k fun k6 hk6 => ?_
     refine wp_seq_k fun k7 hk7 => ?_
     refine wp_region_lit ?_
     refine go1 hA rfl rfl rfl (r_field (hA.ev rfl) T.fo24_0) ?_; clear hA a; intro a hA
     refine go1 hA rfl rfl rfl (r_load (hA.ev rfl) T.fl3 (by first | exact hS.cell rfl | exact (hS.p 1).cell rfl | exact (hS.p 2).cell rfl | exact (hS.p 3).cell rfl | exact (hS.p 4).cell rfl | exact (hS.p 5).cell rfl)) ?_; clear hA a; intro a hA
     refine go1 hA rfl rfl rfl (r_field (hA.ev rfl) T.fo24_1) ?_; clear hA a; intro a hA
     refine go1 hA rfl rfl rfl (r_load (hA.ev rfl) T.fl3 (by first | exact hS.cell rfl | exact (hS.p 1).cell rfl | exact (hS.p 2).cell rfl | exact (hS.p 3).cell rfl | exact (hS.p 4).cell rfl | exact (hS.p 5).cell rfl)) ?_; clear hA a; intro a hA
     refine go1 hA rfl rfl rfl (r_field (hA.ev rfl) T.fo24_2) ?_; clear hA a; intro a hA
     refine go1 hA rfl rfl rfl (r_load (hA.ev rfl) T.fl3 (by first | exact hS.cell rfl | exact (hS.p 1).cell rfl | exact (hS.p 2).cell rfl | exact (hS.p 3).cell rfl | exact (hS.p 4).cell rfl | exact (hS.p 5).cell rfl)) ?_; clear hA a; intro a hA
     refine go1 hA rfl rfl rfl (r_field (hA.ev rfl) T.fo24_3) ?_; clear hA a; intro a hA
     refine go1 hA rfl rfl rfl (r_load (hA.ev rfl) T.fl3 (by first | exact hS.cell rfl | exact (hS.p 1).cell rfl | exact (hS.p 2).cell rfl | exact (hS.p 3).cell rfl | exact (hS.p 4).cell rfl | exact (hS.p 5).cell rfl)) ?_; clear hA a; intro a hA
     refine go1 hA rfl rfl rfl (r_field (hA.ev rfl) T.fo24_4) ?_; clear hA a; intro a hA
     refine go1 hA rfl rfl rfl (r_load (hA.ev rfl) T.fl3 (by first | exact hS.cell rfl | exact (hS.p 1).cell rfl | exact (hS.p 2).cell rfl | exact (hS.p 3).cell rfl | exact (hS.p 4).cell rfl | exact (hS.p 5).cell rfl)) ?_; clear hA a; intro a hA
     refine go1 hA rfl rfl rfl (r_field (hA.ev rfl) T.fo24_5) ?_; clear hA a; intro a hA
     refine go1 hA rfl rfl rfl (r_load (hA.ev rfl) T.fl22 (by first | exact hS.cell rfl | exact (hS.p 1).cell rfl | exact (hS.p 2).cell rfl | exact (hS.p 3).cell rfl | exact (hS.p 4).cell rfl | exact (hS.p 5).cell rfl)) ?_; clear hA a; intro a hA
     refine go1 hA rfl rfl rfl (r_lens (hA.ev rfl) T.un22) ?_; clear hA a; intro a hA
     refine goL hA rfl rfl T.un32 T.el3 rfl rfl rfl (by simp [Value.oneCell']) hS ?_
     clear hA a hS; intro A26 w hS a hA
     refine go1 hA rfl rfl rfl (r_lens (hA.ev rfl) T.un32) ?_; clear hA a; intro a hA
     refine go1 hA rfl rfl rfl (r_move (hA.ev rfl)) ?_; clear hA a; intro a hA
     refine wpList_nil ?_
     refine hk7 _ _ ?_
     clear hk7 k7
     replace hA := hA.keep (.cons (i := 1) rfl (.cons (i := 2) rfl (.cons (i := 3) rfl (.cons (i := 4) rfl (.cons (i := 26) rfl (.cons (i := 27) rfl (.cons (i := 28) rfl .nil)))))))
     refine wp_block ?_
     refine wp_loop_ghost (fun (mm : Nat) a w => ∃ (A' : Option Addr) (c' i : Nat), Ag a 56 [(1, .pointer (some ⟨b1, 0, none⟩)), (4, .pointer (some ⟨p, 0, none⟩)), (26, .slice A26 6 6), (27, .int .i64 6), (28, .int .i64 ((i : Nat) : Int))] ∧ Sat W w ([wst p A' c' ((([k, f, t, lo, hi, (ps.length : Int)].map fun x : Int => numL x.toNat).take i).flatten) false, row 5 1 (.slice A' (((([k, f, t, lo, hi, (ps.length : Int)].map fun x : Int => numL x.toNat).take i).flatten)).length c') (((([k, f, t, lo, hi, (ps.length : Int)].map fun x : Int => numL x.toNat).take i).flatten)).length ((((([k, f, t, lo, hi, (ps.length : Int)].map fun x : Int => numL x.toNat).take i).flatten)).map bcell), row 3 1 (.slice A26 6 6) 6 ([k, f, t, lo, hi, (ps.length : Int)].map (Value.int .i64)), pto b1 (.cells #[.int .i64 k, .int .i64 f, .int .i64 t, .int .i64 lo, .int .i64 hi, .slice A ps.length c] 24)]) ∧ (i ≤ 6) ∧ (((([k, f, t, lo, hi, (ps.length : Int)].map fun x : Int => numL x.toNat).take i).flatten).length ≤ 9 * i) ∧ mm = 6 - i) 6 ?_ ?_
     · replace hA := hA.keep (.cons (i := 1) rfl (.cons (i := 4) rfl (.cons (i := 26) rfl (.cons (i := 27) rfl (.cons (i := 28) rfl .nil)))))
       exact ⟨none, 0, 0, hA, (((((hS.row_nil 5 1).p 3).p 2).p 2).p 3), (by omega), (by simp), by omega⟩
     intro m a w hI
     clear hS hA; obtain ⟨A', c', i, hA, hS, hi6, hH, rfl⟩ := hI
     refine wp_seq_k fun k8 hk8 => ?_
     refine wp_region_lit ?_
     refine go1s hA rfl rfl rfl (r_lss (hA.ev rfl) (hA.ev rfl)) ?_ ?_
     · clear hA a; intro h29 a hA
       try (first | contradiction | (exfalso; omega) | (exfalso; simp at h29; done))
       all_goals
        skip
        refine wpList_nil ?_
        refine hk8 _ _ ?_
        clear hk8 k8
        refine wp_seq_k fun k9 hk9 => ?_
        refine wp_cond_true (hA.ev rfl) ?_
        refine wp_skip ?_
        refine hk9 _ _ ?_
        clear hk9 k9
        refine wp_seq_k fun k10 hk10 => ?_
        refine wp_block ?_
        refine wp_seq_k fun k11 hk11 => ?_
        refine wp_region_lit ?_
        obtain ⟨A26_p, rfl⟩ : ∃ q, A26 = some q := (hS.p 2).rd.hasAddr (by omega)
        obtain ⟨x, hx⟩ : ∃ x, [k, f, t, lo, hi, (ps.length : Int)][(i : Int).toNat]? = some x := ⟨_, List.getElem?_eq_getElem (by simp; omega)⟩
        have hx' : [k, f, t, lo, hi, (ps.length : Int)][i]? = some x := hx
        have hst := flat_step hx'
        have hx9 := hHD x (List.mem_of_getElem? hx)
        have hn9 := numL_nine (n := x.toNat) (by omega)
        have hsl := congrArg List.length hst
        rw [List.length_append] at hsl
        refine go1 hA rfl rfl rfl (r_index (hA.ev rfl) (hA.ev rfl) T.un32 T.sz3 (by omega) (by omega)) ?_; clear hA a; intro a hA
        refine go1 hA rfl rfl rfl (r_load (hA.ev rfl) T.fl3 (rdl (hS.p 2).rd (map_at hx))) ?_; clear hA a; intro a hA
        refine go1 hA rfl rfl rfl (r_assign (hA.ev rfl)) ?_; clear hA a; intro a hA
        refine wpList_nil ?_
        refine hk11 _ _ ?_
        clear hk11 k11
        refine wp_region_lit ?_
        refine go1 hA rfl rfl rfl (r_move (hA.ev rfl)) ?_; clear hA a; intro a hA
        refine go1 hA rfl rfl rfl (r_move (hA.ev rfl)) ?_; clear hA a; intro a hA
        refine goF hA rfl T.en49 rfl (Num_calls _ _ _ p A' c' ((([k, f, t, lo, hi, (ps.length : Int)].map fun x : Int => numL x.toNat).take i).flatten) false x hS (by omega) (by omega)) ?_
        clear hA a; clear hS; rintro e w ⟨rfl, A1, c1, hS⟩; rw [pb1 (by omega), ← hst] at hS; simp only [Bool.not_true, Bool.or_false] at hS
        refine ⟨_, rfl, ?_⟩; intro a hA
        refine wpList_nil ?_
        refine block_normal ?_
        refine hk10 _ _ ?_
        clear hk10 k10
        replace hA := hA.keep (.cons (i := 1) rfl (.cons (i := 4) rfl (.cons (i := 6) rfl (.cons (i := 26) rfl (.cons (i := 27) rfl (.cons (i := 28) rfl (.cons (i := 29) rfl (.cons (i := 30) rfl (.cons (i := 31) rfl (.cons (i := 32) rfl (.cons (i := 33) rfl .nil)))))))))))
        refine wp_region_lit ?_
        refine go1 hA rfl rfl rfl (r_add64 (hA.ev rfl) (hA.ev rfl) (by omega) (by omega)) ?_; clear hA a; intro a hA
        refine go1 hA rfl rfl rfl (r_move (hA.ev rfl)) ?_; clear hA a; intro a hA
        refine wpList_nil ?_
        replace hA := hA.keep (.cons (i := 1) rfl (.cons (i := 4) rfl (.cons (i := 26) rfl (.cons (i := 27) rfl (.cons (i := 28) rfl .nil)))))
        refine ⟨_, ?_, _, _, i + 1, hA, hS, (by omega), (by omega), rfl⟩
        omega
     · clear hA a; intro h29 a hA
       try (first | contradiction | (exfalso; omega) | (exfalso; simp at h29; done))
       all_goals
        skip
        refine wpList_nil ?_
        refine hk8 _ _ ?_
        clear hk8 k8
        refine wp_seq_k fun k12 hk12 => ?_
        refine wp_cond_false (hA.ev rfl) ?_
        refine wp_exit ?_
        refine then_exit ?_; clear hk12 k12
        refine then_exit ?_
        refine block_hit ?_
        refine hk6 _ _ ?_
        clear hk6 k6
        replace hA := hA.keep (.cons (i := 1) rfl (.cons (i := 4) rfl .nil))
        refine wp_seq_k fun k13 hk13 => ?_
        refine wp_seq_k fun k14 hk14 => ?_
        refine wp_region_lit ?_
        refine go1 hA rfl rfl rfl (r_field (hA.ev rfl) T.fo24_5) ?_; clear hA a; intro a hA
        refine go1 hA rfl rfl rfl (r_load (hA.ev rfl) T.fl22 (by first | exact hS.cell rfl | exact (hS.p 1).cell rfl | exact (hS.p 2).cell rfl | exact (hS.p 3).cell rfl | exact (hS.p 4).cell rfl | exact (hS.p 5).cell rfl)) ?_; clear hA a; intro a hA
        refine go1 hA rfl rfl rfl (r_lens (hA.ev rfl) T.un22) ?_; clear hA a; intro a hA
        refine go1 hA rfl rfl rfl (r_move (hA.ev rfl)) ?_; clear hA a; intro a hA
        refine wpList_nil ?_
        refine hk14 _ _ ?_
        clear hk14 k14
        replace hA := hA.keep (.cons (i := 4) rfl (.cons (i := 37) rfl (.cons (i := 38) rfl (.cons (i := 39) rfl .nil))))
        refine wp_block ?_
        refine wp_loop_ghost (fun (mm : Nat) a w => ∃ (A' : Option Addr) (c' i : Nat), Ag a 56 [(4, .pointer (some ⟨p, 0, none⟩)), (37, .slice A ps.length c), (38, .int .i64 ps.length), (39, .int .i64 ((i : Nat) : Int))] ∧ Sat W w ([wst p A' c' (headB (MailV.mk k f t lo hi (ps.map PartW.val)) ++ partsB ((ps.take i).map PartW.val)) false, row 5 1 (.slice A' ((headB (MailV.mk k f t lo hi (ps.map PartW.val)) ++ partsB ((ps.take i).map PartW.val))).length c') ((headB (MailV.mk k f t lo hi (ps.map PartW.val)) ++ partsB ((ps.take i).map PartW.val))).length (((headB (MailV.mk k f t lo hi (ps.map PartW.val)) ++ partsB ((ps.take i).map PartW.val))).map bcell)]) ∧ (i ≤ ps.length) ∧ mm = ps.length - i) ps.length ?_ ?_
        · replace hA := hA.keep (.cons (i := 4) rfl (.cons (i := 37) rfl (.cons (i := 38) rfl (.cons (i := 39) rfl .nil))))
          have h6 : i = 6 := by omega
          subst h6
          rw [head_eq, show headB (MailV.mk k f t lo hi (ps.map PartW.val)) = (headB (MailV.mk k f t lo hi (ps.map PartW.val)) ++ partsB ((ps.take 0).map PartW.val)) from by simp [partsB]] at hS
          exact ⟨_, _, 0, hA, (Sat.nilTo (M := [_, _]) ((hS.p 1).p 1) _), (by omega), by omega⟩
        intro m a w hI
        clear hS hA; obtain ⟨A', c', i, hA, hS, hi2, rfl⟩ := hI
        refine wp_seq_k fun k15 hk15 => ?_
        refine wp_region_lit ?_
        refine go1s hA rfl rfl rfl (r_lss (hA.ev rfl) (hA.ev rfl)) ?_ ?_
        · clear hA a; intro h40 a hA
          try (first | contradiction | (exfalso; omega) | (exfalso; simp at h40; done))
          all_goals
           skip
           refine wpList_nil ?_
           refine hk15 _ _ ?_
           clear hk15 k15
           refine wp_seq_k fun k16 hk16 => ?_
           refine wp_cond_true (hA.ev rfl) ?_
           refine wp_skip ?_
           refine hk16 _ _ ?_
           clear hk16 k16
           refine wp_seq_k fun k17 hk17 => ?_
           refine wp_block ?_
           refine wp_seq_k fun k18 hk18 => ?_
           refine wp_region_lit ?_
           obtain ⟨A_p, rfl⟩ : ∃ q, A = some q := (hR.sat hS).hasAddr (by omega)
           obtain ⟨q, hq⟩ : ∃ x, ps[(i : Int).toNat]? = some x := ⟨_, List.getElem?_eq_getElem (by omega)⟩
           have hq' : ps[i]? = some q := hq
           have hps : (headB (MailV.mk k f t lo hi (ps.map PartW.val)) ++ partsB ((ps.take (i + 1)).map PartW.val)) = ((headB (MailV.mk k f t lo hi (ps.map PartW.val)) ++ partsB ((ps.take i).map PartW.val)) ++ numL q.cart.toNat) ++ (numL q.b.length ++ q.b) := by rw [partsB_succ hq']; simp
           have h9c := numL_nine (n := q.cart.toNat) (by have := cart_in hcs (List.mem_of_getElem? hq); omega)
           have hp1 : (headB (MailV.mk k f t lo hi (ps.map PartW.val)) ++ partsB ((ps.take i).map PartW.val)).length ≤ 54 + partsZ ps := by rw [List.length_append]; have h1 := partsB_take hcs (by omega) i; have h2 := headB_len (k := k) (f := f) (t := t) (lo := lo) (hi := hi) (ps := ps.map PartW.val) (by omega) (by omega) (by omega) (by omega) (by omega) (by simp; omega); omega
           have hqz := partsZ_mem (List.mem_of_getElem? hq)
           have hqc := cart_in hcs (List.mem_of_getElem? hq)
           refine go1 hA rfl rfl rfl (r_index (hA.ev rfl) (hA.ev rfl) T.un22 T.sz49 (by omega) (by omega)) ?_; clear hA a; intro a hA
           refine go1 hA rfl rfl rfl (r_loadS (cs := encW q) (hA.ev rfl) T.ag49 T.sz49 (fun j u e => rdl2 (hR.sat hS) (partW_at hq j u e))) ?_; clear hA a; intro a hA
           refine goN hA rfl T.zv49 hS ?_
           clear hA a hS; intro b8 w hS a hA
           first | refine goWS2 (vs := [_, _]) (cs' := [_, _]) hA rfl rfl T.sz49 (by simp [Value.oneCell']) hS rfl rfl ?_ | refine goWS2 (vs := [_, _]) (cs' := [_, _]) hA rfl rfl T.sz49 (by simp [Value.oneCell']) (hS.p 1) rfl rfl ?_ | refine goWS2 (vs := [_, _]) (cs' := [_, _]) hA rfl rfl T.sz49 (by simp [Value.oneCell']) (hS.p 2) rfl rfl ?_ | refine goWS2 (vs := [_, _]) (cs' := [_, _]) hA rfl rfl T.sz49 (by simp [Value.oneCell']) (hS.p 3) rfl rfl ?_ | refine goWS2 (vs := [_, _]) (cs' := [_, _]) hA rfl rfl T.sz49 (by simp [Value.oneCell']) (hS.p 4) rfl rfl ?_ | refine goWS2 (vs := [_, _]) (cs' := [_, _]) hA rfl rfl T.sz49 (by simp [Value.oneCell']) (hS.p 5) rfl rfl ?_
           clear hS; intro w hS
           refine wpList_nil ?_
           refine hk18 _ _ ?_
           clear hk18 k18
           refine wp_seq_k fun k19 hk19 => ?_
           refine wp_region_lit ?_
           refine go1 hA rfl rfl rfl (r_move (hA.ev rfl)) ?_; clear hA a; intro a hA
           refine go1 hA rfl rfl rfl (r_field (hA.ev rfl) T.fo49_0) ?_; clear hA a; intro a hA
           refine go1 hA rfl rfl rfl (r_load (hA.ev rfl) T.fl3 (by first | exact hS.cell rfl | exact (hS.p 1).cell rfl | exact (hS.p 2).cell rfl | exact (hS.p 3).cell rfl | exact (hS.p 4).cell rfl | exact (hS.p 5).cell rfl)) ?_; clear hA a; intro a hA
           refine goF hA rfl T.en49 rfl (Num_calls _ _ _ p A' c' (headB (MailV.mk k f t lo hi (ps.map PartW.val)) ++ partsB ((ps.take i).map PartW.val)) false q.cart ((hS.p 2).p 2) (by omega) (by omega)) ?_
           clear hA a; clear hS; rintro e w ⟨rfl, A1, c1, hS⟩; rw [pb1 (by omega)] at hS; simp only [Bool.not_true, Bool.or_false] at hS
           refine ⟨_, rfl, ?_⟩; intro a hA
           refine wpList_nil ?_
           refine hk19 _ _ ?_
           clear hk19 k19
           replace hA := hA.keep (.cons (i := 4) rfl (.cons (i := 8) rfl (.cons (i := 37) rfl (.cons (i := 38) rfl (.cons (i := 39) rfl (.cons (i := 40) rfl (.cons (i := 41) rfl (.cons (i := 42) rfl (.cons (i := 43) rfl (.cons (i := 44) rfl (.cons (i := 45) rfl .nil)))))))))))
           refine wp_region_lit ?_
           refine go1 hA rfl rfl rfl (r_move (hA.ev rfl)) ?_; clear hA a; intro a hA
           refine go1 hA rfl rfl rfl (r_field (hA.ev rfl) T.fo49_1) ?_; clear hA a; intro a hA
           refine go1 hA rfl rfl rfl (r_load (hA.ev rfl) T.fl34 (by first | exact hS.cell rfl | exact (hS.p 1).cell rfl | exact (hS.p 2).cell rfl | exact (hS.p 3).cell rfl | exact (hS.p 4).cell rfl | exact (hS.p 5).cell rfl)) ?_; clear hA a; intro a hA
           refine goF hA rfl T.en50 rfl (Frame_calls _ _ _ p A1 c1 ((headB (MailV.mk k f t lo hi (ps.map PartW.val)) ++ partsB ((ps.take i).map PartW.val)) ++ numL q.cart.toNat) false (str q.b) q.A q.c hS (by rw [List.length_append]; omega) (fun w' M N s => ((hB q (List.mem_of_getElem? hq)).1.sat s)) (by rw [List.length_append]; show _ + q.b.length ≤ _; omega)) ?_
           clear hA a; clear hS; rintro e w ⟨rfl, A2, c2, hS⟩; rw [pb3 (.inr rfl)] at hS; dsimp only at hS; rw [str_list, ← hps] at hS
           refine ⟨_, rfl, ?_⟩; intro a hA
           refine wpList_nil ?_
           refine block_normal ?_
           refine hk17 _ _ ?_
           clear hk17 k17
           replace hA := hA.keep (.cons (i := 4) rfl (.cons (i := 8) rfl (.cons (i := 37) rfl (.cons (i := 38) rfl (.cons (i := 39) rfl (.cons (i := 40) rfl (.cons (i := 41) rfl (.cons (i := 42) rfl (.cons (i := 43) rfl (.cons (i := 44) rfl (.cons (i := 45) rfl (.cons (i := 47) rfl (.cons (i := 48) rfl (.cons (i := 49) rfl .nil))))))))))))))
           refine wp_region_lit ?_
           refine go1 hA rfl rfl rfl (r_add64 (hA.ev rfl) (hA.ev rfl) (by omega) (by omega)) ?_; clear hA a; intro a hA
           refine go1 hA rfl rfl rfl (r_move (hA.ev rfl)) ?_; clear hA a; intro a hA
           refine wpList_nil ?_
           replace hA := hA.keep (.cons (i := 4) rfl (.cons (i := 37) rfl (.cons (i := 38) rfl (.cons (i := 39) rfl .nil))))
           refine ⟨_, ?_, _, _, i + 1, hA, (Sat.nilTo (M := [_, _]) hS _), (by omega), rfl⟩
           omega
        · clear hA a; intro h40 a hA
          try (first | contradiction | (exfalso; omega) | (exfalso; simp at h40; done))
          all_goals
           skip
           refine wpList_nil ?_
           refine hk15 _ _ ?_
           clear hk15 k15
           refine wp_seq_k fun k20 hk20 => ?_
           refine wp_cond_false (hA.ev rfl) ?_
           refine wp_exit ?_
           refine then_exit ?_; clear hk20 k20
           refine then_exit ?_
           refine block_hit ?_
           refine hk13 _ _ ?_
           clear hk13 k13
           replace hA := hA.keep (.cons (i := 4) rfl .nil)
           refine wp_seq_k fun k21 hk21 => ?_
           refine wp_region_lit ?_
           refine go1 hA rfl rfl rfl (r_move (hA.ev rfl)) ?_; clear hA a; intro a hA
           have hti : ps.take i = ps := List.take_of_length_le (by omega)
           rw [hti] at hS
           have hml : (mailB (MailV.mk k f t lo hi (ps.map PartW.val))).length ≤ 54 + partsZ ps := by unfold mailB; rw [List.length_append]; have h1 := partsB_take hcs (by omega) ps.length; rw [List.take_length] at h1; have h2 := headB_len (k := k) (f := f) (t := t) (lo := lo) (hi := hi) (ps := ps.map PartW.val) (by omega) (by omega) (by omega) (by omega) (by omega) (by simp; omega); dsimp only; omega
           refine goF hA rfl T.en51 rfl (Done_calls _ _ _ p A' c' (mailB (MailV.mk k f t lo hi (ps.map PartW.val))) false hS (hS.p 1).rd (by omega)) ?_
           clear hA a; rintro e w ⟨A6, c6, rfl, hT⟩; simp only [Bool.false_eq_true, if_false] at hT ⊢; replace hS := hS.rebase1 hT; clear hT
           refine ⟨_, rfl, ?_⟩; intro a hA
           refine go1 hA rfl rfl rfl (r_ext (hA.ev rfl) rfl) ?_; clear hA a; intro a hA
           refine go1 hA rfl rfl rfl (r_ext (hA.ev rfl) rfl) ?_; clear hA a; intro a hA
           refine go1 hA rfl rfl rfl (r_assign (hA.ev rfl)) ?_; clear hA a; intro a hA
           refine go1 hA rfl rfl rfl (r_assign (hA.ev rfl)) ?_; clear hA a; intro a hA
           refine wpList_nil ?_
           refine hk21 _ _ ?_
           clear hk21 k21
           replace hA := hA.keep (.cons (i := 2) rfl (.cons (i := 3) rfl .nil))
           refine wp_ret ?_
           refine end2 hA rfl rfl rfl ?_
           exact .inl ⟨hF, _, _, rfl, Sat.nilTo (M := [_]) hS _⟩
set_option maxRecDepth 100000 in
set_option maxHeartbeats 1000000 in
theorem RefPut_calls (W : World) (k f t lo hi : Int) (A : Option Addr) (c : Nat) (ps : List PartW) (hR : Rd W 2 (.slice A ps.length c) ps.length (ps.flatMap encW)) (hlen : ps.length ≤ 1000000000000) (hB : BodW W ps) (hbk : partsZ ps ≤ 1000000000000) : Calls Try.prog 28 #[.agg #[.int .i64 k, .int .i64 f, .int .i64 t, .int .i64 lo, .int .i64 hi, .slice A ps.length c]] W fun e w' => ((FormC k f t lo hi (ps.map PartW.cart)) ∧ ∃ A' c', e = .returned (.tuple #[.slice A' (mailB (MailV.mk k f t lo hi (ps.map PartW.val))).length c', .int .i64 0]) ∧ Sat W w' [row 5 1 (.slice A' (mailB (MailV.mk k f t lo hi (ps.map PartW.val))).length c') (mailB (MailV.mk k f t lo hi (ps.map PartW.val))).length ((mailB (MailV.mk k f t lo hi (ps.map PartW.val))).map bcell)]) ∨ (¬ (FormC k f t lo hi (ps.map PartW.cart)) ∧ e = .returned (.tuple #[.slice none 0 0, .int .i64 1]) ∧ Sat W w' []) := by
  refine enter Try.func28 rfl rfl rfl (.cons (i := 0) rfl .nil) ?_
  intro a hA
  have hS := Sat.start W
  have hpz := partsZ_len ps
  refine wp_seq_k fun k1 hk1 => ?_
  refine wp_region_lit ?_
  refine goB hA rfl rfl hS ?_
  clear hA a hS; intro b1 w hS a hA
  refine go1 hA rfl rfl rfl (r_assign (hA.ev rfl)) ?_; clear hA a; intro a hA
  refine go1 hA rfl rfl rfl (r_assign (hA.ev rfl)) ?_; clear hA a; intro a hA
  refine wpList_nil ?_
  refine hk1 _ _ ?_
  clear hk1 k1
  replace hA := hA.keep (.cons (i := 1) rfl (.cons (i := 2) rfl (.cons (i := 3) rfl .nil)))
  refine wp_seq_k fun k2 hk2 => ?_
  refine wp_seq_k fun k3 hk3 => ?_
  refine wp_region_lit ?_
  refine go1 hA rfl rfl rfl (r_loadS (cs := [_, _, _, _, _, _]) (hA.ev rfl) T.ag24 T.sz24 (by first | exact hS.cellsAt (xs := [_, _, _, _, _, _]) rfl | exact (hS.p 1).cellsAt (xs := [_, _, _, _, _, _]) rfl | exact (hS.p 2).cellsAt (xs := [_, _, _, _, _, _]) rfl | exact (hS.p 3).cellsAt (xs := [_, _, _, _, _, _]) rfl)) ?_; clear hA a; intro a hA
  refine goF hA rfl T.en14 rfl (RefCheckW _ k f t lo hi A c ps (hR.sat hS) (by omega)) ?_
  clear hA a; rintro e w ⟨er, rfl, hF, hT⟩; replace hS : Sat _ _ (_ :: _) := hS.rebase hT; clear hT
  refine ⟨_, rfl, ?_⟩; intro a hA
  refine go1s hA rfl rfl rfl (r_neq (hA.ev rfl) (hA.ev rfl)) ?_ ?_
  · clear hA a; intro h9 a hA
    try (first | contradiction | (exfalso; omega) | (exfalso; simp at h9; done))
    all_goals
     skip
     refine wpList_nil ?_
     refine hk3 _ _ ?_
     clear hk3 k3
     replace hA := hA.keep (.cons (i := 1) rfl (.cons (i := 2) rfl (.cons (i := 3) rfl (.cons (i := 9) rfl .nil))))
     refine wp_cond_true (hA.ev rfl) ?_
     refine wp_seq_k fun k4 hk4 => ?_
     refine wp_region_lit ?_
     refine go1 hA rfl rfl rfl (r_assign (hA.ev rfl)) ?_; clear hA a; intro a hA
     refine go1 hA rfl rfl rfl (r_assign (hA.ev rfl)) ?_; clear hA a; intro a hA
     refine wpList_nil ?_
     refine hk4 _ _ ?_
     clear hk4 k4
     replace hA := hA.keep (.cons (i := 1) rfl (.cons (i := 2) rfl (.cons (i := 3) rfl .nil)))
     refine wp_ret ?_
     refine then_ret ?_; clear hk2 k2
     refine end2 hA rfl rfl rfl ?_
     exact .inr ⟨by rcases hF with ⟨h, _⟩ | ⟨_, h⟩; omega; exact h, rfl, Sat.none_ hS⟩
  · clear hA a; intro h9 a hA
    obtain ⟨her, hF⟩ : er = 0 ∧ (FormC k f t lo hi (ps.map PartW.cart)) := by rcases hF with h | ⟨h, _⟩; exact h; omega
    obtain ⟨hf0, hf1, ht0, ht1, hft, hI, hG⟩ := id hF
    unfold Wm.Itv at hI
    have hnn : 0 ≤ k ∧ k ≤ 6 ∧ 0 ≤ lo ∧ lo ≤ 4611686018427387904 ∧ 0 ≤ hi ∧ hi ≤ 4611686018427387904 := by simp only [List.length_map] at hI; omega
    clear hI
    have hcs := goodC_in hG
    have n0 := numL_nine (n := k.toNat) (by omega)
    have n1 := numL_nine (n := f.toNat) (by omega)
    have n2 := numL_nine (n := t.toNat) (by omega)
    have n3 := numL_nine (n := lo.toNat) (by omega)
    have n4 := numL_nine (n := hi.toNat) (by omega)
    have n5 := numL_nine (n := ps.length) (by omega)
    try (first | contradiction | (exfalso; omega) | (exfalso; simp at h9; done))
    all_goals
     skip
     refine wpList_nil ?_
     refine hk3 _ _ ?_
     clear hk3 k3
     replace hA := hA.keep (.cons (i := 1) rfl (.cons (i := 2) rfl (.cons (i := 3) rfl (.cons (i := 9) rfl .nil))))
     refine wp_cond_false (hA.ev rfl) ?_
     refine wp_skip ?_
     refine hk2 _ _ ?_
     clear hk2 k2
     replace hA := hA.keep (.cons (i := 1) rfl (.cons (i := 2) rfl (.cons (i := 3) rfl .nil)))
     refine wp_seq_k fun k5 hk5 => ?_
     refine wp_region_lit ?_
     refine go1 hA rfl rfl rfl (r_assign (hA.ev rfl)) ?_; clear hA a; intro a hA
     refine wpList_nil ?_
     refine hk5 _ _ ?_
     clear hk5 k5
     refine wp_seq_k fun k6 hk6 => ?_
     refine wp_region_lit ?_
     refine go1 hA rfl rfl rfl (r_move (hA.ev rfl)) ?_; clear hA a; intro a hA
     refine go1 hA rfl rfl rfl (r_field (hA.ev rfl) T.fo24_0) ?_; clear hA a; intro a hA
     refine go1 hA rfl rfl rfl (as_val (r_load (hA.ev rfl) T.fl3 (by first | exact hS.cell rfl | exact (hS.p 1).cell rfl)) (show Value.int .i64 k = .int .i64 ((k.toNat : Nat) : Int) from by rw [Int.toNat_of_nonneg (by omega)])) ?_; clear hA a; intro a hA
     refine goF hA rfl T.en52 rfl (num_calls _ _ _ none 0 [] k.toNat (hS.row_nil 5 1) (by omega) (by simp)) ?_
     clear hA a; clear hS; rintro e w ⟨A1, c1, rfl, hS⟩
     refine ⟨_, rfl, ?_⟩; intro a hA
     refine go1 hA rfl rfl rfl (r_assign (hA.ev rfl)) ?_; clear hA a; intro a hA
     refine wpList_nil ?_
     refine hk6 _ _ ?_
     clear hk6 k6
     replace hA := hA.keep (.cons (i := 1) rfl (.cons (i := 2) rfl (.cons (i := 3) rfl (.cons (i := 4) rfl .nil))))
     refine wp_seq_k fun k7 hk7 => ?_
     refine wp_region_lit ?_
     refine go1 hA rfl rfl rfl (r_move (hA.ev rfl)) ?_; clear hA a; intro a hA
     refine go1 hA rfl rfl rfl (r_field (hA.ev rfl) T.fo24_1) ?_; clear hA a; intro a hA
     refine go1 hA rfl rfl rfl (as_val (r_load (hA.ev rfl) T.fl3 (by first | exact hS.cell rfl | exact (hS.p 1).cell rfl)) (show Value.int .i64 f = .int .i64 ((f.toNat : Nat) : Int) from by rw [Int.toNat_of_nonneg (by omega)])) ?_; clear hA a; intro a hA
     refine goF hA rfl T.en52 rfl (num_calls _ _ _ _ _ _ f.toNat hS (by omega) (by simp only [List.length_append, List.length_nil]; omega)) ?_
     clear hA a; clear hS; rintro e w ⟨A1, c1, rfl, hS⟩
     refine ⟨_, rfl, ?_⟩; intro a hA
     refine go1 hA rfl rfl rfl (r_assign (hA.ev rfl)) ?_; clear hA a; intro a hA
     refine wpList_nil ?_
     refine hk7 _ _ ?_
     clear hk7 k7
     replace hA := hA.keep (.cons (i := 1) rfl (.cons (i := 2) rfl (.cons (i := 3) rfl (.cons (i := 4) rfl .nil))))
     refine wp_seq_k fun k8 hk8 => ?_
     refine wp_region_lit ?_
     refine go1 hA rfl rfl rfl (r_move (hA.ev rfl)) ?_; clear hA a; intro a hA
     refine go1 hA rfl rfl rfl (r_field (hA.ev rfl) T.fo24_2) ?_; clear hA a; intro a hA
     refine go1 hA rfl rfl rfl (as_val (r_load (hA.ev rfl) T.fl3 (by first | exact hS.cell rfl | exact (hS.p 1).cell rfl)) (show Value.int .i64 t = .int .i64 ((t.toNat : Nat) : Int) from by rw [Int.toNat_of_nonneg (by omega)])) ?_; clear hA a; intro a hA
     refine goF hA rfl T.en52 rfl (num_calls _ _ _ _ _ _ t.toNat hS (by omega) (by simp only [List.length_append, List.length_nil]; omega)) ?_
     clear hA a; clear hS; rintro e w ⟨A1, c1, rfl, hS⟩
     refine ⟨_, rfl, ?_⟩; intro a hA
     refine go1 hA rfl rfl rfl (r_assign (hA.ev rfl)) ?_; clear hA a; intro a hA
     refine wpList_nil ?_
     refine hk8 _ _ ?_
     clear hk8 k8
     replace hA := hA.keep (.cons (i := 1) rfl (.cons (i := 2) rfl (.cons (i := 3) rfl (.cons (i := 4) rfl .nil))))
     refine wp_seq_k fun k9 hk9 => ?_
     refine wp_region_lit ?_
     refine go1 hA rfl rfl rfl (r_move (hA.ev rfl)) ?_; clear hA a; intro a hA
     refine go1 hA rfl rfl rfl (r_field (hA.ev rfl) T.fo24_3) ?_; clear hA a; intro a hA
     refine go1 hA rfl rfl rfl (as_val (r_load (hA.ev rfl) T.fl3 (by first | exact hS.cell rfl | exact (hS.p 1).cell rfl)) (show Value.int .i64 lo = .int .i64 ((lo.toNat : Nat) : Int) from by rw [Int.toNat_of_nonneg (by omega)])) ?_; clear hA a; intro a hA
     refine goF hA rfl T.en52 rfl (num_calls _ _ _ _ _ _ lo.toNat hS (by omega) (by simp only [List.length_append, List.length_nil]; omega)) ?_
     clear hA a; clear hS; rintro e w ⟨A1, c1, rfl, hS⟩
     refine ⟨_, rfl, ?_⟩; intro a hA
     refine go1 hA rfl rfl rfl (r_assign (hA.ev rfl)) ?_; clear hA a; intro a hA
     refine wpList_nil ?_
     refine hk9 _ _ ?_
     clear hk9 k9
     replace hA := hA.keep (.cons (i := 1) rfl (.cons (i := 2) rfl (.cons (i := 3) rfl (.cons (i := 4) rfl .nil))))
     refine wp_seq_k fun k10 hk10 => ?_
     refine wp_region_lit ?_
     refine go1 hA rfl rfl rfl (r_move (hA.ev rfl)) ?_; clear hA a; intro a hA
     refine go1 hA rfl rfl rfl (r_field (hA.ev rfl) T.fo24_4) ?_; clear hA a; intro a hA
     refine go1 hA rfl rfl rfl (as_val (r_load (hA.ev rfl) T.fl3 (by first | exact hS.cell rfl | exact (hS.p 1).cell rfl)) (show Value.int .i64 hi = .int .i64 ((hi.toNat : Nat) : Int) from by rw [Int.toNat_of_nonneg (by omega)])) ?_; clear hA a; intro a hA
     refine goF hA rfl T.en52 rfl (num_calls _ _ _ _ _ _ hi.toNat hS (by omega) (by simp only [List.length_append, List.length_nil]; omega)) ?_
     clear hA a; clear hS; rintro e w ⟨A1, c1, rfl, hS⟩
     refine ⟨_, rfl, ?_⟩; intro a hA
     refine go1 hA rfl rfl rfl (r_assign (hA.ev rfl)) ?_; clear hA a; intro a hA
     refine wpList_nil ?_
     refine hk10 _ _ ?_
     clear hk10 k10
     replace hA := hA.keep (.cons (i := 1) rfl (.cons (i := 2) rfl (.cons (i := 3) rfl (.cons (i := 4) rfl .nil))))
     refine wp_seq_k fun k11 hk11 => ?_
     refine wp_region_lit ?_
     refine go1 hA rfl rfl rfl (r_move (hA.ev rfl)) ?_; clear hA a; intro a hA
     refine go1 hA rfl rfl rfl (r_field (hA.ev rfl) T.fo24_5) ?_; clear hA a; intro a hA
     refine go1 hA rfl rfl rfl (r_load (hA.ev rfl) T.fl22 (by first | exact hS.cell rfl | exact (hS.p 1).cell rfl | exact (hS.p 2).cell rfl | exact (hS.p 3).cell rfl)) ?_; clear hA a; intro a hA
     refine go1 hA rfl rfl rfl (r_lens (hA.ev rfl) T.un22) ?_; clear hA a; intro a hA
     refine goF hA rfl T.en52 rfl (num_calls _ _ _ _ _ _ ps.length hS (by omega) (by simp only [List.length_append, List.length_nil]; omega)) ?_
     clear hA a; clear hS; rintro e w ⟨A1, c1, rfl, hS⟩
     refine ⟨_, rfl, ?_⟩; intro a hA
     refine go1 hA rfl rfl rfl (r_assign (hA.ev rfl)) ?_; clear hA a; intro a hA
     refine wpList_nil ?_
     refine hk11 _ _ ?_
     clear hk11 k11
     replace hA := hA.keep (.cons (i := 1) rfl (.cons (i := 2) rfl (.cons (i := 3) rfl (.cons (i := 4) rfl .nil))))
     refine wp_seq_k fun k12 hk12 => ?_
     refine wp_seq_k fun k13 hk13 => ?_
     refine wp_region_lit ?_
     refine go1 hA rfl rfl rfl (r_assign (hA.ev rfl)) ?_; clear hA a; intro a hA
     refine wpList_nil ?_
     refine hk13 _ _ ?_
     clear hk13 k13
     refine wp_block ?_
     refine wp_loop_ghost (fun (mm : Nat) a w => ∃ (A' : Option Addr) (c' i : Nat), Ag a 83 [(1, .pointer (some ⟨b1, 0, none⟩)), (4, .slice A' (headB (MailV.mk k f t lo hi (ps.map PartW.val)) ++ partsB ((ps.take i).map PartW.val)).length c'), (5, .int .i64 ((i : Nat) : Int))] ∧ Sat W w ([row 5 1 (.slice A' ((headB (MailV.mk k f t lo hi (ps.map PartW.val)) ++ partsB ((ps.take i).map PartW.val))).length c') ((headB (MailV.mk k f t lo hi (ps.map PartW.val)) ++ partsB ((ps.take i).map PartW.val))).length (((headB (MailV.mk k f t lo hi (ps.map PartW.val)) ++ partsB ((ps.take i).map PartW.val))).map bcell), pto b1 (.cells #[.int .i64 k, .int .i64 f, .int .i64 t, .int .i64 lo, .int .i64 hi, .slice A ps.length c] 24)]) ∧ (i ≤ ps.length) ∧ mm = ps.length - i) ps.length ?_ ?_
     · replace hA := hA.keep (.cons (i := 1) rfl (.cons (i := 4) rfl (.cons (i := 5) rfl .nil)))
       have e0 : [] ++ numL k.toNat ++ numL f.toNat ++ numL t.toNat ++ numL lo.toNat ++ numL hi.toNat ++ numL ps.length = (headB (MailV.mk k f t lo hi (ps.map PartW.val)) ++ partsB ((ps.take 0).map PartW.val)) := by simp [headB, partsB]
       rw [e0] at hS hA
       exact ⟨_, _, 0, hA, hS, (by omega), by omega⟩
     intro m a w hI
     clear hS hA; obtain ⟨A', c', i, hA, hS, hi2, rfl⟩ := hI
     refine wp_seq_k fun k14 hk14 => ?_
     refine wp_seq_k fun k15 hk15 => ?_
     refine wp_region_lit ?_
     refine go1 hA rfl rfl rfl (r_move (hA.ev rfl)) ?_; clear hA a; intro a hA
     refine go1 hA rfl rfl rfl (r_field (hA.ev rfl) T.fo24_5) ?_; clear hA a; intro a hA
     refine go1 hA rfl rfl rfl (r_load (hA.ev rfl) T.fl22 (by first | exact hS.cell rfl | exact (hS.p 1).cell rfl | exact (hS.p 2).cell rfl | exact (hS.p 3).cell rfl)) ?_; clear hA a; intro a hA
     refine go1 hA rfl rfl rfl (r_lens (hA.ev rfl) T.un22) ?_; clear hA a; intro a hA
     refine go1s hA rfl rfl rfl (r_lss (hA.ev rfl) (hA.ev rfl)) ?_ ?_
     · clear hA a; intro h39 a hA
       try (first | contradiction | (exfalso; omega) | (exfalso; simp at h39; done))
       all_goals
        skip
        refine wpList_nil ?_
        refine hk15 _ _ ?_
        clear hk15 k15
        refine wp_cond_true (hA.ev rfl) ?_
        refine wp_skip ?_
        refine hk14 _ _ ?_
        clear hk14 k14
        refine wp_seq_k fun k16 hk16 => ?_
        refine wp_block ?_
        refine wp_seq_k fun k17 hk17 => ?_
        refine wp_region_lit ?_
        refine go1 hA rfl rfl rfl (r_move (hA.ev rfl)) ?_; clear hA a; intro a hA
        refine go1 hA rfl rfl rfl (r_field (hA.ev rfl) T.fo24_5) ?_; clear hA a; intro a hA
        refine go1 hA rfl rfl rfl (r_load (hA.ev rfl) T.fl22 (by first | exact hS.cell rfl | exact (hS.p 1).cell rfl | exact (hS.p 2).cell rfl | exact (hS.p 3).cell rfl)) ?_; clear hA a; intro a hA
        refine go1 hA rfl rfl rfl (r_move (hA.ev rfl)) ?_; clear hA a; intro a hA
        obtain ⟨A_p, rfl⟩ : ∃ q, A = some q := (hR.sat hS).hasAddr (by omega)
        obtain ⟨q, hq⟩ : ∃ x, ps[(i : Int).toNat]? = some x := ⟨_, List.getElem?_eq_getElem (by omega)⟩
        obtain ⟨qc, qA, qn, qb⟩ := q
        have hq' : ps[i]? = some ⟨qc, qA, qn, qb⟩ := hq
        have hqb := (hB _ (List.mem_of_getElem? hq)).1
        have hqc : 0 ≤ qc ∧ qc < 64 := cart_in hcs (List.mem_of_getElem? hq)
        dsimp only at hqb
        have hps : (headB (MailV.mk k f t lo hi (ps.map PartW.val)) ++ partsB ((ps.take (i + 1)).map PartW.val)) = (headB (MailV.mk k f t lo hi (ps.map PartW.val)) ++ partsB ((ps.take i).map PartW.val)) ++ numL qc.toNat ++ numL qb.length ++ qb := by rw [partsB_succ hq']; simp
        have h9c := numL_nine (n := qc.toNat) (by omega)
        have hqz : qb.length + 20 ≤ partsZ ps := partsZ_mem (List.mem_of_getElem? hq)
        have h9l := numL_nine (n := qb.length) (by omega)
        have hp1 : (headB (MailV.mk k f t lo hi (ps.map PartW.val)) ++ partsB ((ps.take i).map PartW.val)).length ≤ 54 + partsZ ps := by rw [List.length_append]; have h1 := partsB_take hcs (by omega) i; have h2 := headB_len (k := k) (f := f) (t := t) (lo := lo) (hi := hi) (ps := ps.map PartW.val) (by omega) (by omega) (by omega) (by omega) (by omega) (by simp; omega); omega
        refine go1 hA rfl rfl rfl (r_index (hA.ev rfl) (hA.ev rfl) T.un22 T.sz49 (by omega) (by omega)) ?_; clear hA a; intro a hA
        refine go1 hA rfl rfl rfl (r_fieldP (hA.ev rfl) T.fo49_0) ?_; clear hA a; intro a hA
        refine go1 hA rfl rfl rfl (as_val (r_load (hA.ev rfl) T.fl3 (rdl2 (hR.sat hS) (partW_at hq 0 _ rfl))) (show Value.int .i64 qc = .int .i64 ((qc.toNat : Nat) : Int) from by rw [Int.toNat_of_nonneg (by omega)])) ?_; clear hA a; intro a hA
        refine goF hA rfl T.en52 rfl (num_calls _ _ _ _ _ _ qc.toNat hS (by omega) (by omega)) ?_
        clear hA a; clear hS; rintro e w ⟨A1, c1, rfl, hS⟩
        refine ⟨_, rfl, ?_⟩; intro a hA
        refine go1 hA rfl rfl rfl (r_assign (hA.ev rfl)) ?_; clear hA a; intro a hA
        refine wpList_nil ?_
        refine hk17 _ _ ?_
        clear hk17 k17
        refine wp_seq_k fun k18 hk18 => ?_
        refine wp_region_lit ?_
        refine go1 hA rfl rfl rfl (r_move (hA.ev rfl)) ?_; clear hA a; intro a hA
        refine go1 hA rfl rfl rfl (r_field (hA.ev rfl) T.fo24_5) ?_; clear hA a; intro a hA
        refine go1 hA rfl rfl rfl (r_load (hA.ev rfl) T.fl22 (by first | exact hS.cell rfl | exact (hS.p 1).cell rfl | exact (hS.p 2).cell rfl | exact (hS.p 3).cell rfl)) ?_; clear hA a; intro a hA
        refine go1 hA rfl rfl rfl (r_move (hA.ev rfl)) ?_; clear hA a; intro a hA
        refine go1 hA rfl rfl rfl (r_index (hA.ev rfl) (hA.ev rfl) T.un22 T.sz49 (by omega) (by omega)) ?_; clear hA a; intro a hA
        refine go1 hA rfl rfl rfl (r_fieldP (hA.ev rfl) T.fo49_1) ?_; clear hA a; intro a hA
        refine go1 hA rfl rfl rfl (r_load (hA.ev rfl) T.fl34 (rdl2 (hR.sat hS) (partW_at hq 1 _ rfl))) ?_; clear hA a; intro a hA
        dsimp only at hA
        refine go1 hA rfl rfl rfl (r_lens (hA.ev rfl) T.un34) ?_; clear hA a; intro a hA
        refine goF hA rfl T.en52 rfl (num_calls _ _ _ _ _ _ qb.length hS (by omega) (by rw [List.length_append]; omega)) ?_
        clear hA a; clear hS; rintro e w ⟨A1, c1, rfl, hS⟩
        refine ⟨_, rfl, ?_⟩; intro a hA
        refine go1 hA rfl rfl rfl (r_assign (hA.ev rfl)) ?_; clear hA a; intro a hA
        refine wpList_nil ?_
        refine hk18 _ _ ?_
        clear hk18 k18
        refine wp_seq_k fun k19 hk19 => ?_
        refine wp_region_lit ?_
        refine go1 hA rfl rfl rfl (r_assign (hA.ev rfl)) ?_; clear hA a; intro a hA
        refine wpList_nil ?_
        refine hk19 _ _ ?_
        clear hk19 k19
        refine wp_block ?_
        refine wp_loop_ghost (fun (mm : Nat) a w => ∃ (A' : Option Addr) (c' j : Nat), Ag a 83 [(1, .pointer (some ⟨b1, 0, none⟩)), (4, .slice A' ((headB (MailV.mk k f t lo hi (ps.map PartW.val)) ++ partsB ((ps.take i).map PartW.val)) ++ numL qc.toNat ++ numL qb.length ++ qb.take j).length c'), (5, .int .i64 ((i : Nat) : Int)), (6, .int .i64 ((j : Nat) : Int))] ∧ Sat W w ([row 5 1 (.slice A' (((headB (MailV.mk k f t lo hi (ps.map PartW.val)) ++ partsB ((ps.take i).map PartW.val)) ++ numL qc.toNat ++ numL qb.length ++ qb.take j)).length c') (((headB (MailV.mk k f t lo hi (ps.map PartW.val)) ++ partsB ((ps.take i).map PartW.val)) ++ numL qc.toNat ++ numL qb.length ++ qb.take j)).length ((((headB (MailV.mk k f t lo hi (ps.map PartW.val)) ++ partsB ((ps.take i).map PartW.val)) ++ numL qc.toNat ++ numL qb.length ++ qb.take j)).map bcell), pto b1 (.cells #[.int .i64 k, .int .i64 f, .int .i64 t, .int .i64 lo, .int .i64 hi, .slice (some A_p) ps.length c] 24)]) ∧ (j ≤ qb.length) ∧ mm = qb.length - j) qb.length ?_ ?_
        · replace hA := hA.keep (.cons (i := 1) rfl (.cons (i := 4) rfl (.cons (i := 5) rfl (.cons (i := 6) rfl .nil))))
          rw [show (headB (MailV.mk k f t lo hi (ps.map PartW.val)) ++ partsB ((ps.take i).map PartW.val)) ++ numL qc.toNat ++ numL qb.length = ((headB (MailV.mk k f t lo hi (ps.map PartW.val)) ++ partsB ((ps.take i).map PartW.val)) ++ numL qc.toNat ++ numL qb.length ++ qb.take 0) from by simp] at hS hA
          exact ⟨_, _, 0, hA, hS, (by omega), by omega⟩
        intro m a w hI
        clear hS hA; obtain ⟨A', c', j, hA, hS, hj2, rfl⟩ := hI
        refine wp_seq_k fun k20 hk20 => ?_
        refine wp_seq_k fun k21 hk21 => ?_
        refine wp_region_lit ?_
        refine go1 hA rfl rfl rfl (r_move (hA.ev rfl)) ?_; clear hA a; intro a hA
        refine go1 hA rfl rfl rfl (r_field (hA.ev rfl) T.fo24_5) ?_; clear hA a; intro a hA
        refine go1 hA rfl rfl rfl (r_load (hA.ev rfl) T.fl22 (by first | exact hS.cell rfl | exact (hS.p 1).cell rfl | exact (hS.p 2).cell rfl | exact (hS.p 3).cell rfl)) ?_; clear hA a; intro a hA
        refine go1 hA rfl rfl rfl (r_move (hA.ev rfl)) ?_; clear hA a; intro a hA
        refine go1 hA rfl rfl rfl (r_index (hA.ev rfl) (hA.ev rfl) T.un22 T.sz49 (by omega) (by omega)) ?_; clear hA a; intro a hA
        refine go1 hA rfl rfl rfl (r_fieldP (hA.ev rfl) T.fo49_1) ?_; clear hA a; intro a hA
        refine go1 hA rfl rfl rfl (r_load (hA.ev rfl) T.fl34 (rdl2 (hR.sat hS) (partW_at hq 1 _ rfl))) ?_; clear hA a; intro a hA
        dsimp only at hA
        refine go1 hA rfl rfl rfl (r_lens (hA.ev rfl) T.un34) ?_; clear hA a; intro a hA
        refine go1s hA rfl rfl rfl (r_lss (hA.ev rfl) (hA.ev rfl)) ?_ ?_
        · clear hA a; intro h67 a hA
          try (first | contradiction | (exfalso; omega) | (exfalso; simp at h67; done))
          all_goals
           skip
           refine wpList_nil ?_
           refine hk21 _ _ ?_
           clear hk21 k21
           refine wp_cond_true (hA.ev rfl) ?_
           refine wp_skip ?_
           refine hk20 _ _ ?_
           clear hk20 k20
           refine wp_seq_k fun k22 hk22 => ?_
           refine wp_block ?_
           refine wp_region_lit ?_
           refine go1 hA rfl rfl rfl (r_move (hA.ev rfl)) ?_; clear hA a; intro a hA
           refine go1 hA rfl rfl rfl (r_field (hA.ev rfl) T.fo24_5) ?_; clear hA a; intro a hA
           refine go1 hA rfl rfl rfl (r_load (hA.ev rfl) T.fl22 (by first | exact hS.cell rfl | exact (hS.p 1).cell rfl | exact (hS.p 2).cell rfl | exact (hS.p 3).cell rfl)) ?_; clear hA a; intro a hA
           refine go1 hA rfl rfl rfl (r_move (hA.ev rfl)) ?_; clear hA a; intro a hA
           refine go1 hA rfl rfl rfl (r_index (hA.ev rfl) (hA.ev rfl) T.un22 T.sz49 (by omega) (by omega)) ?_; clear hA a; intro a hA
           refine go1 hA rfl rfl rfl (r_fieldP (hA.ev rfl) T.fo49_1) ?_; clear hA a; intro a hA
           refine go1 hA rfl rfl rfl (r_load (hA.ev rfl) T.fl34 (rdl2 (hR.sat hS) (partW_at hq 1 _ rfl))) ?_; clear hA a; intro a hA
           dsimp only at hA
           refine go1 hA rfl rfl rfl (r_move (hA.ev rfl)) ?_; clear hA a; intro a hA
           obtain ⟨qA_p, rfl⟩ : ∃ q, qA = some q := (hqb.sat hS).hasAddr (by omega)
           obtain ⟨y, hy⟩ : ∃ x, qb[(j : Int).toNat]? = some x := ⟨_, List.getElem?_eq_getElem (by omega)⟩
           have hy' : qb[j]? = some y := hy
           refine go1 hA rfl rfl rfl (r_index (hA.ev rfl) (hA.ev rfl) T.un34 T.sz5 (by omega) (by omega)) ?_; clear hA a; intro a hA
           refine go1 hA rfl rfl rfl (r_load (hA.ev rfl) T.fl5 (rdl (hqb.sat hS) (map_at hy))) ?_; clear hA a; intro a hA
           refine goL hA rfl rfl T.un34 T.el5 rfl rfl rfl (bcells_one [y]) hS ?_
           clear hA a hS; intro A80 w hS a hA
           refine goA' hA rfl rfl rfl T.un34 T.el5 rfl (hS.p 1) (hS.rd.src T.un34 (by simp [bcell, Value.oneCell'])) (by simp only [List.length_append, List.length_take] at hp1 ⊢; omega) (by simp only [List.length_append, List.length_take] at hp1 ⊢; omega) ?_
           clear hA a hS; intro A81 c81 w hc81 hS a hA
           have e1 : ((headB (MailV.mk k f t lo hi (ps.map PartW.val)) ++ partsB ((ps.take i).map PartW.val)) ++ numL qc.toNat ++ numL qb.length ++ qb.take j) ++ [y] = ((headB (MailV.mk k f t lo hi (ps.map PartW.val)) ++ partsB ((ps.take i).map PartW.val)) ++ numL qc.toNat ++ numL qb.length ++ qb.take (j + 1)) := by rw [List.take_add_one, hy']; simp
           have e2 : ((headB (MailV.mk k f t lo hi (ps.map PartW.val)) ++ partsB ((ps.take i).map PartW.val)) ++ numL qc.toNat ++ numL qb.length ++ qb.take j).length + 1 = ((headB (MailV.mk k f t lo hi (ps.map PartW.val)) ++ partsB ((ps.take i).map PartW.val)) ++ numL qc.toNat ++ numL qb.length ++ qb.take (j + 1)).length := by rw [← e1]; simp; omega
           change Sat W w (row 5 1 (.slice A81 (((headB (MailV.mk k f t lo hi (ps.map PartW.val)) ++ partsB ((ps.take i).map PartW.val)) ++ numL qc.toNat ++ numL qb.length ++ qb.take j).length + 1) c81) (((headB (MailV.mk k f t lo hi (ps.map PartW.val)) ++ partsB ((ps.take i).map PartW.val)) ++ numL qc.toNat ++ numL qb.length ++ qb.take j).length + 1) (((headB (MailV.mk k f t lo hi (ps.map PartW.val)) ++ partsB ((ps.take i).map PartW.val)) ++ numL qc.toNat ++ numL qb.length ++ qb.take j).map bcell ++ [y].map bcell) :: _) at hS
           rw [e2, ← List.map_append, e1] at hS
           rw [e2] at hA
           refine go1 hA rfl rfl rfl (r_assign (hA.ev rfl)) ?_; clear hA a; intro a hA
           refine wpList_nil ?_
           refine block_normal ?_
           refine hk22 _ _ ?_
           clear hk22 k22
           refine wp_region_lit ?_
           refine go1 hA rfl rfl rfl (r_move (hA.ev rfl)) ?_; clear hA a; intro a hA
           refine go1 hA rfl rfl rfl (r_add64 (hA.ev rfl) (hA.ev rfl) (by omega) (by omega)) ?_; clear hA a; intro a hA
           refine go1 hA rfl rfl rfl (r_assign (hA.ev rfl)) ?_; clear hA a; intro a hA
           refine wpList_nil ?_
           replace hA := hA.keep (.cons (i := 1) rfl (.cons (i := 4) rfl (.cons (i := 5) rfl (.cons (i := 6) rfl .nil))))
           refine ⟨_, ?_, _, _, j + 1, hA, (((hS.p 2).p 1).p 2).drop, (by omega), rfl⟩
           omega
        · clear hA a; intro h67 a hA
          try (first | contradiction | (exfalso; omega) | (exfalso; simp at h67; done))
          all_goals
           skip
           refine wpList_nil ?_
           refine hk21 _ _ ?_
           clear hk21 k21
           refine wp_cond_false (hA.ev rfl) ?_
           refine wp_exit ?_
           refine then_exit ?_; clear hk20 k20
           refine then_exit ?_
           refine block_hit ?_
           refine block_normal ?_
           refine hk16 _ _ ?_
           clear hk16 k16
           refine wp_region_lit ?_
           have htj : qb.take j = qb := List.take_of_length_le (by omega)
           rw [htj, ← hps] at hS hA
           refine go1 hA rfl rfl rfl (r_move (hA.ev rfl)) ?_; clear hA a; intro a hA
           refine go1 hA rfl rfl rfl (r_add64 (hA.ev rfl) (hA.ev rfl) (by omega) (by omega)) ?_; clear hA a; intro a hA
           refine go1 hA rfl rfl rfl (r_assign (hA.ev rfl)) ?_; clear hA a; intro a hA
           refine wpList_nil ?_
           replace hA := hA.keep (.cons (i := 1) rfl (.cons (i := 4) rfl (.cons (i := 5) rfl .nil)))
           refine ⟨_, ?_, _, _, i + 1, hA, hS, (by omega), rfl⟩
           omega
     · clear hA a; intro h39 a hA
       try (first | contradiction | (exfalso; omega) | (exfalso; simp at h39; done))
       all_goals
        skip
        refine wpList_nil ?_
        refine hk15 _ _ ?_
        clear hk15 k15
        refine wp_cond_false (hA.ev rfl) ?_
        refine wp_exit ?_
        refine then_exit ?_; clear hk14 k14
        refine then_exit ?_
        refine block_hit ?_
        refine hk12 _ _ ?_
        clear hk12 k12
        replace hA := hA.keep (.cons (i := 4) rfl .nil)
        refine wp_seq_k fun k23 hk23 => ?_
        refine wp_region_lit ?_
        have hti : ps.take i = ps := List.take_of_length_le (by omega)
        rw [hti] at hS hA
        refine go1 hA rfl rfl rfl (r_move (hA.ev rfl)) ?_; clear hA a; intro a hA
        refine go1 hA rfl rfl rfl (r_assign (hA.ev rfl)) ?_; clear hA a; intro a hA
        refine go1 hA rfl rfl rfl (r_assign (hA.ev rfl)) ?_; clear hA a; intro a hA
        refine wpList_nil ?_
        refine hk23 _ _ ?_
        clear hk23 k23
        replace hA := hA.keep (.cons (i := 2) rfl (.cons (i := 3) rfl .nil))
        refine wp_ret ?_
        refine end2 hA rfl rfl rfl ?_
        exact .inl ⟨hF, _, _, rfl, Sat.nilTo (M := [_]) hS _⟩
set_option maxRecDepth 100000 in
set_option maxHeartbeats 1000000 in
theorem Size_calls (W : World) (k f t lo hi : Int) (A : Option Addr) (c : Nat) (ps : List PartW) (hR : Rd W 2 (.slice A ps.length c) ps.length (ps.flatMap encW)) (hlen : ps.length ≤ 1000000000000) (hB : BodW W ps) (hbk : partsZ ps ≤ 1000000000000) : Calls Try.prog 29 #[.agg #[.int .i64 k, .int .i64 f, .int .i64 t, .int .i64 lo, .int .i64 hi, .slice A ps.length c]] W fun e w' => ((FormC k f t lo hi (ps.map PartW.cart)) ∧ e = .returned (.tuple #[.int .i64 (((mailB (MailV.mk k f t lo hi (ps.map PartW.val))).length : Nat) : Int), .int .i64 0]) ∧ Sat W w' []) ∨ (¬ (FormC k f t lo hi (ps.map PartW.cart)) ∧ e = .returned (.tuple #[.int .i64 0, .int .i64 1]) ∧ Sat W w' []) := by
  refine enter Try.func29 rfl rfl rfl (.cons (i := 0) rfl .nil) ?_
  intro a hA
  have hS := Sat.start W
  refine wp_seq_k fun k1 hk1 => ?_
  refine wp_region_lit ?_
  refine goB hA rfl rfl hS ?_
  clear hA a hS; intro b1 w hS a hA
  refine go1 hA rfl rfl rfl (r_assign (hA.ev rfl)) ?_; clear hA a; intro a hA
  refine go1 hA rfl rfl rfl (r_assign (hA.ev rfl)) ?_; clear hA a; intro a hA
  refine wpList_nil ?_
  refine hk1 _ _ ?_
  clear hk1 k1
  replace hA := hA.keep (.cons (i := 1) rfl (.cons (i := 2) rfl (.cons (i := 3) rfl .nil)))
  refine wp_seq_k fun k2 hk2 => ?_
  refine wp_region_lit ?_
  refine go1 hA rfl rfl rfl (r_loadS (cs := [_, _, _, _, _, _]) (hA.ev rfl) T.ag24 T.sz24 (by first | exact hS.cellsAt (xs := [_, _, _, _, _, _]) rfl | exact (hS.p 1).cellsAt (xs := [_, _, _, _, _, _]) rfl | exact (hS.p 2).cellsAt (xs := [_, _, _, _, _, _]) rfl | exact (hS.p 3).cellsAt (xs := [_, _, _, _, _, _]) rfl)) ?_; clear hA a; intro a hA
  refine goF hA rfl T.en27 rfl (Put_calls _ k f t lo hi A c ps (hR.sat hS) hlen (hB.sat hS) hbk) ?_
  clear hA a; rintro e w (⟨hF, A', c', rfl, hT⟩ | ⟨hF, rfl, hT⟩)
  · skip
    replace hS := hS.rebase1 hT; clear hT
    refine ⟨_, rfl, ?_⟩; intro a hA
    refine go1 hA rfl rfl rfl (r_move (hA.ev rfl)) ?_; clear hA a; intro a hA
    refine go1 hA rfl rfl rfl (r_ext (hA.ev rfl) rfl) ?_; clear hA a; intro a hA
    refine go1 hA rfl rfl rfl (r_ext (hA.ev rfl) rfl) ?_; clear hA a; intro a hA
    refine go1 hA rfl rfl rfl (r_assign (hA.ev rfl)) ?_; clear hA a; intro a hA
    refine go1 hA rfl rfl rfl (r_assign (hA.ev rfl)) ?_; clear hA a; intro a hA
    refine wpList_nil ?_
    refine hk2 _ _ ?_
    clear hk2 k2
    replace hA := hA.keep (.cons (i := 2) rfl (.cons (i := 3) rfl (.cons (i := 4) rfl (.cons (i := 5) rfl .nil))))
    refine wp_seq_k fun k3 hk3 => ?_
    refine wp_region_lit ?_
    refine go1 hA rfl rfl rfl (r_move (hA.ev rfl)) ?_; clear hA a; intro a hA
    refine go1 hA rfl rfl rfl (r_lens (hA.ev rfl) T.un34) ?_; clear hA a; intro a hA
    refine go1 hA rfl rfl rfl (r_move (hA.ev rfl)) ?_; clear hA a; intro a hA
    refine go1 hA rfl rfl rfl (r_assign (hA.ev rfl)) ?_; clear hA a; intro a hA
    refine go1 hA rfl rfl rfl (r_assign (hA.ev rfl)) ?_; clear hA a; intro a hA
    refine wpList_nil ?_
    refine hk3 _ _ ?_
    clear hk3 k3
    replace hA := hA.keep (.cons (i := 2) rfl (.cons (i := 3) rfl .nil))
    refine wp_ret ?_
    refine end2 hA rfl rfl rfl ?_
    exact .inl ⟨hF, rfl, Sat.none_ hS⟩
  · skip
    replace hS : Sat _ _ (_ :: _) := hS.rebase hT; clear hT
    refine ⟨_, rfl, ?_⟩; intro a hA
    refine go1 hA rfl rfl rfl (r_move (hA.ev rfl)) ?_; clear hA a; intro a hA
    refine go1 hA rfl rfl rfl (r_ext (hA.ev rfl) rfl) ?_; clear hA a; intro a hA
    refine go1 hA rfl rfl rfl (r_ext (hA.ev rfl) rfl) ?_; clear hA a; intro a hA
    refine go1 hA rfl rfl rfl (r_assign (hA.ev rfl)) ?_; clear hA a; intro a hA
    refine go1 hA rfl rfl rfl (r_assign (hA.ev rfl)) ?_; clear hA a; intro a hA
    refine wpList_nil ?_
    refine hk2 _ _ ?_
    clear hk2 k2
    replace hA := hA.keep (.cons (i := 2) rfl (.cons (i := 3) rfl (.cons (i := 4) rfl (.cons (i := 5) rfl .nil))))
    refine wp_seq_k fun k4 hk4 => ?_
    refine wp_region_lit ?_
    refine go1 hA rfl rfl rfl (r_move (hA.ev rfl)) ?_; clear hA a; intro a hA
    refine go1 hA rfl rfl rfl (r_lens (hA.ev rfl) T.un34) ?_; clear hA a; intro a hA
    refine go1 hA rfl rfl rfl (r_move (hA.ev rfl)) ?_; clear hA a; intro a hA
    refine go1 hA rfl rfl rfl (r_assign (hA.ev rfl)) ?_; clear hA a; intro a hA
    refine go1 hA rfl rfl rfl (r_assign (hA.ev rfl)) ?_; clear hA a; intro a hA
    refine wpList_nil ?_
    refine hk4 _ _ ?_
    clear hk4 k4
    replace hA := hA.keep (.cons (i := 2) rfl (.cons (i := 3) rfl .nil))
    refine wp_ret ?_
    refine end2 hA rfl rfl rfl ?_
    exact .inr ⟨hF, rfl, Sat.none_ hS⟩
end Go.Proofs.Ytfbdcllbgfohdaa.Wk
