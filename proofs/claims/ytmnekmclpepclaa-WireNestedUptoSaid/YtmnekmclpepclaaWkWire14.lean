/- The walks of barrowref05.From, Read and barrowlaw05.alike. Conditions: at most 10 to the 12 asks. -/
import Derived.Test.YtmnekmclpepclaaWkWire13
import Derived.Test.YtmnekmclpepclaaPWire9
import Derived.Test.YtmnekmclpepclaaWkWire12
set_option linter.unusedVariables false
set_option linter.unusedSimpArgs false
namespace Go.Proofs.Ytmnekmclpepclaa.Wk
open Go Go.RowKit Go.Proofs.Ytmnekmclpepclaa Go.Proofs.Ytmnekmclpepclaa.K
set_option maxRecDepth 100000 in
set_option maxHeartbeats 1000000 in
theorem From_calls (W : World) (A : Option Addr) (c : Nat) (bs : List UInt8) (at0 : Nat) (Aq : Option Addr) (cs : Nat) (asks : List AskD) (hR : Rd W 1 (.slice A bs.length c) bs.length (bs.map bcell)) (hat : at0 ≤ bs.length) (hb : bs.length ≤ 140737488355328) (hQ : Rd W 2 (.slice Aq asks.length cs) asks.length (asks.flatMap encA)) (hw : ∀ x ∈ asks, -9223372036854775808 ≤ x.n ∧ x.n ≤ 9223372036854775807) (hl : asks.length ≤ 1000000000000) : Calls Try.prog 39 #[.slice A bs.length c, .int .i64 ((at0 : Nat) : Int), .slice Aq asks.length cs] W fun e w' => ∃ A' c', e = .returned (.tuple #[.slice A' (fromA bs at0 asks).1.length c', .int .i64 ((fromA bs at0 asks).2.1 : Nat), .int .i64 (fromA bs at0 asks).2.2]) ∧ (fromA bs at0 asks).2.1 ≤ bs.length ∧ Sat W w' [row 66 3 (.slice A' ((fromA bs at0 asks).1).length c') ((fromA bs at0 asks).1).length (((fromA bs at0 asks).1).flatMap encG)] := by
  refine enter Try.func39 rfl rfl rfl (.cons (i := 0) rfl (.cons (i := 1) rfl (.cons (i := 2) rfl .nil))) ?_
  intro a hA
  have hS := Sat.start W
  refine wp_seq_k fun k1 hk1 => ?_
  refine wp_region_lit ?_
  refine go1 hA rfl rfl rfl (r_assign (hA.ev rfl)) ?_; clear hA a; intro a hA
  refine go1 hA rfl rfl rfl (r_assign (hA.ev rfl)) ?_; clear hA a; intro a hA
  refine go1 hA rfl rfl rfl (r_assign (hA.ev rfl)) ?_; clear hA a; intro a hA
  refine wpList_nil ?_
  refine hk1 _ _ ?_
  clear hk1 k1
  refine wp_seq_k fun k2 hk2 => ?_
  refine wp_region_lit ?_
  refine go1 hA rfl rfl rfl (r_assign (hA.ev rfl)) ?_; clear hA a; intro a hA
  refine wpList_nil ?_
  refine hk2 _ _ ?_
  clear hk2 k2
  refine wp_seq_k fun k3 hk3 => ?_
  refine wp_seq_k fun k4 hk4 => ?_
  refine wp_region_lit ?_
  refine go1 hA rfl rfl rfl (r_assign (hA.ev rfl)) ?_; clear hA a; intro a hA
  refine wpList_nil ?_
  refine hk4 _ _ ?_
  clear hk4 k4
  refine wp_block ?_
  refine wp_loop_ghost (fun (mm : Nat) a w => ∃ (A' : Option Addr) (c' at_ i : Nat) (gs : List GotD), Ag a 43 [(0, .slice A bs.length c), (1, .int .i64 ((at_ : Nat) : Int)), (2, .slice Aq asks.length cs), (9, .slice A' gs.length c'), (10, .int .i64 ((i : Nat) : Int))] ∧ Sat W w ([row 66 3 (.slice A' (gs).length c') (gs).length ((gs).flatMap encG)]) ∧ (i ≤ asks.length) ∧ (at_ ≤ bs.length) ∧ (gs.length ≤ i) ∧ ((fromA bs at0 asks) = app gs (fromA bs at_ (asks.drop i))) ∧ mm = asks.length - i) asks.length ?_ ?_
  · replace hA := hA.keep (.cons (i := 0) rfl (.cons (i := 1) rfl (.cons (i := 2) rfl (.cons (i := 9) rfl (.cons (i := 10) rfl .nil)))))
    exact ⟨none, 0, at0, 0, [], hA, (hS.row_nil 66 3), (by omega), (by omega), (by exact Nat.le_refl 0), (by rfl), by omega⟩
  intro m a w hI
  clear hS hA; obtain ⟨A', c', at_, i, gs, hA, hS, hi, hat2, hgl, hF, rfl⟩ := hI
  refine wp_seq_k fun k5 hk5 => ?_
  refine wp_seq_k fun k6 hk6 => ?_
  refine wp_region_lit ?_
  refine go1 hA rfl rfl rfl (r_move (hA.ev rfl)) ?_; clear hA a; intro a hA
  refine go1 hA rfl rfl rfl (r_move (hA.ev rfl)) ?_; clear hA a; intro a hA
  refine go1 hA rfl rfl rfl (r_lens (hA.ev rfl) T.un63) ?_; clear hA a; intro a hA
  refine go1s hA rfl rfl rfl (r_lss (hA.ev rfl) (hA.ev rfl)) ?_ ?_
  · clear hA a; intro h17 a hA
    try (first | contradiction | (exfalso; omega) | (exfalso; simp at h17; done))
    all_goals
     skip
     refine wpList_nil ?_
     refine hk6 _ _ ?_
     clear hk6 k6
     refine wp_cond_true (hA.ev rfl) ?_
     refine wp_skip ?_
     refine hk5 _ _ ?_
     clear hk5 k5
     refine wp_seq_k fun k7 hk7 => ?_
     refine wp_block ?_
     refine wp_seq_k fun k8 hk8 => ?_
     refine wp_region_lit ?_
     refine go1 hA rfl rfl rfl (r_move (hA.ev rfl)) ?_; clear hA a; intro a hA
     refine go1 hA rfl rfl rfl (r_move (hA.ev rfl)) ?_; clear hA a; intro a hA
     refine go1 hA rfl rfl rfl (r_move (hA.ev rfl)) ?_; clear hA a; intro a hA
     refine go1 hA rfl rfl rfl (r_move (hA.ev rfl)) ?_; clear hA a; intro a hA
     obtain ⟨Aq_p, rfl⟩ : ∃ q, Aq = some q := (hQ.sat hS).hasAddr (by omega)
     obtain ⟨x, hx⟩ : ∃ x, asks[(i : Int).toNat]? = some x := ⟨_, List.getElem?_eq_getElem (by omega)⟩
     have hx' : asks[i]? = some x := by rw [← hx]; congr 1
     obtain ⟨hw0, hw1⟩ := hw x (List.mem_of_getElem? hx')
     refine go1 hA rfl rfl rfl (r_index (hA.ev rfl) (hA.ev rfl) T.un63 T.sz69 (by omega) (by omega)) ?_; clear hA a; intro a hA
     refine go1 hA rfl rfl rfl (r_loadS (cs := encA x) (hA.ev rfl) T.ag69 T.sz69 (fun j u e => rdl2 (hQ.sat hS) (ask_at hx j u e))) ?_; clear hA a; intro a hA
     refine goF hA rfl T.en66 rfl (one_calls _ A c bs at_ x (hR.sat hS) hat2 hb (by omega) (by omega)) ?_
     clear hA a; rintro e w ⟨rfl, hT⟩; replace hS : Sat _ _ (_ :: _) := hS.rebase hT; clear hT; have hpl := one_place (a := x) hat2
     refine ⟨_, rfl, ?_⟩; intro a hA
     refine go1 hA rfl rfl rfl (r_move (hA.ev rfl)) ?_; clear hA a; intro a hA
     refine go1 hA rfl rfl rfl (r_ext (hA.ev rfl) rfl) ?_; clear hA a; intro a hA
     refine go1 hA rfl rfl rfl (r_ext (hA.ev rfl) rfl) ?_; clear hA a; intro a hA
     refine go1 hA rfl rfl rfl (r_ext (hA.ev rfl) rfl) ?_; clear hA a; intro a hA
     refine goN hA rfl T.zv66 hS ?_
     clear hA a hS; intro b11 w hS a hA
     first | refine goWS2 (vs := [_, _, _]) (cs' := [_, _, _]) hA rfl rfl T.sz66 (by simp [Value.oneCell']) hS rfl rfl ?_ | refine goWS2 (vs := [_, _, _]) (cs' := [_, _, _]) hA rfl rfl T.sz66 (by simp [Value.oneCell']) (hS.p 1) rfl rfl ?_ | refine goWS2 (vs := [_, _, _]) (cs' := [_, _, _]) hA rfl rfl T.sz66 (by simp [Value.oneCell']) (hS.p 2) rfl rfl ?_ | refine goWS2 (vs := [_, _, _]) (cs' := [_, _, _]) hA rfl rfl T.sz66 (by simp [Value.oneCell']) (hS.p 3) rfl rfl ?_
     clear hS; intro w hS
     refine go1 hA rfl rfl rfl (r_assign (hA.ev rfl)) ?_; clear hA a; intro a hA
     refine go1 hA rfl rfl rfl (r_assign (hA.ev rfl)) ?_; clear hA a; intro a hA
     refine wpList_nil ?_
     refine hk8 _ _ ?_
     clear hk8 k8
     refine wp_seq_k fun k9 hk9 => ?_
     refine wp_seq_k fun k10 hk10 => ?_
     refine wp_region_lit ?_
     refine go1 hA rfl rfl rfl (r_move (hA.ev rfl)) ?_; clear hA a; intro a hA
     refine go1s hA rfl rfl rfl (r_neq (hA.ev rfl) (hA.ev rfl)) ?_ ?_
     · clear hA a; intro h32 a hA
       have hst := from_stop hF hx' h32
       try (first | contradiction | (exfalso; omega) | (exfalso; simp at h32; done))
       all_goals
        skip
        refine wpList_nil ?_
        refine hk10 _ _ ?_
        clear hk10 k10
        refine wp_cond_true (hA.ev rfl) ?_
        refine wp_seq_k fun k11 hk11 => ?_
        refine wp_region_lit ?_
        refine go1 hA rfl rfl rfl (r_move (hA.ev rfl)) ?_; clear hA a; intro a hA
        refine go1 hA rfl rfl rfl (r_move (hA.ev rfl)) ?_; clear hA a; intro a hA
        refine go1 hA rfl rfl rfl (r_move (hA.ev rfl)) ?_; clear hA a; intro a hA
        refine go1 hA rfl rfl rfl (r_assign (hA.ev rfl)) ?_; clear hA a; intro a hA
        refine go1 hA rfl rfl rfl (r_assign (hA.ev rfl)) ?_; clear hA a; intro a hA
        refine go1 hA rfl rfl rfl (r_assign (hA.ev rfl)) ?_; clear hA a; intro a hA
        refine wpList_nil ?_
        refine hk11 _ _ ?_
        clear hk11 k11
        refine wp_ret ?_
        refine then_ret ?_; clear hk9 k9
        refine block_ret ?_
        refine then_ret ?_; clear hk7 k7
        refine then_ret ?_
        refine block_ret ?_
        refine then_ret ?_; clear hk3 k3
        refine end3 hA rfl rfl rfl rfl ?_
        rw [hst]; exact ⟨_, _, rfl, hat2, hS.drop⟩
     · clear hA a; intro h32 a hA
       have hst := from_step hF hx' (by omega)
       have hpl2 := hpl (by omega)
       try (first | contradiction | (exfalso; omega) | (exfalso; simp at h32; done))
       all_goals
        skip
        refine wpList_nil ?_
        refine hk10 _ _ ?_
        clear hk10 k10
        refine wp_cond_false (hA.ev rfl) ?_
        refine wp_skip ?_
        refine hk9 _ _ ?_
        clear hk9 k9
        refine wp_seq_k fun k12 hk12 => ?_
        refine wp_region_lit ?_
        refine go1 hA rfl rfl rfl (r_move (hA.ev rfl)) ?_; clear hA a; intro a hA
        refine go1 hA rfl rfl rfl (r_loadS (cs := [_, _, _]) (hA.ev rfl) T.ag66 T.sz66 (by first | exact hS.cellsAt (xs := [_, _, _]) rfl | exact (hS.p 1).cellsAt (xs := [_, _, _]) rfl | exact (hS.p 2).cellsAt (xs := [_, _, _]) rfl | exact (hS.p 3).cellsAt (xs := [_, _, _]) rfl)) ?_; clear hA a; intro a hA
        refine goLS (vss := [[_, _, _]]) hA rfl rfl T.un64 T.el66 rfl rfl rfl (by simp) rfl hS ?_
        clear hA a hS; intro A38 w hS a hA
        refine goA' hA rfl rfl rfl T.un64 T.el66 rfl (hS.p 2) (hS.rd.src T.un64 (by simp [encG, Value.oneCell'])) (by omega) (by omega) ?_
        clear hA a hS; intro A39 c39 w hc39 hS a hA
        have ge39 : gs.length + 1 = (gs ++ [(oneA bs at_ x).1]).length := by simp
        change Sat W w (row 66 3 (.slice A39 (gs.length + 1) c39) (gs.length + 1) (gs.flatMap encG ++ encG (oneA bs at_ x).1) :: _) at hS
        rw [ge39, got_snoc] at hS
        rw [ge39] at hA
        refine go1 hA rfl rfl rfl (r_assign (hA.ev rfl)) ?_; clear hA a; intro a hA
        refine wpList_nil ?_
        refine hk12 _ _ ?_
        clear hk12 k12
        refine wp_region_lit ?_
        refine go1 hA rfl rfl rfl (r_move (hA.ev rfl)) ?_; clear hA a; intro a hA
        refine go1 hA rfl rfl rfl (r_assign (hA.ev rfl)) ?_; clear hA a; intro a hA
        refine wpList_nil ?_
        refine block_normal ?_
        refine hk7 _ _ ?_
        clear hk7 k7
        refine wp_region_lit ?_
        refine go1 hA rfl rfl rfl (r_move (hA.ev rfl)) ?_; clear hA a; intro a hA
        refine go1 hA rfl rfl rfl (r_add64 (hA.ev rfl) (hA.ev rfl) (by omega) (by omega)) ?_; clear hA a; intro a hA
        refine go1 hA rfl rfl rfl (r_assign (hA.ev rfl)) ?_; clear hA a; intro a hA
        refine wpList_nil ?_
        replace hA := hA.keep (.cons (i := 0) rfl (.cons (i := 1) rfl (.cons (i := 2) rfl (.cons (i := 9) rfl (.cons (i := 10) rfl .nil)))))
        refine ⟨_, ?_, _, _, (oneA bs at_ x).2.1, i + 1, gs ++ [(oneA bs at_ x).1], hA, (Sat.nilTo (M := [_]) hS _), (by omega), (by omega), (by simp; omega), (by exact hst), rfl⟩
        omega
  · clear hA a; intro h17 a hA
    try (first | contradiction | (exfalso; omega) | (exfalso; simp at h17; done))
    all_goals
     skip
     refine wpList_nil ?_
     refine hk6 _ _ ?_
     clear hk6 k6
     refine wp_cond_false (hA.ev rfl) ?_
     refine wp_exit ?_
     refine then_exit ?_; clear hk5 k5
     refine then_exit ?_
     refine block_hit ?_
     refine hk3 _ _ ?_
     clear hk3 k3
     replace hA := hA.keep (.cons (i := 1) rfl (.cons (i := 9) rfl .nil))
     refine wp_seq_k fun k13 hk13 => ?_
     refine wp_region_lit ?_
     refine go1 hA rfl rfl rfl (r_move (hA.ev rfl)) ?_; clear hA a; intro a hA
     refine go1 hA rfl rfl rfl (r_move (hA.ev rfl)) ?_; clear hA a; intro a hA
     refine go1 hA rfl rfl rfl (r_assign (hA.ev rfl)) ?_; clear hA a; intro a hA
     refine go1 hA rfl rfl rfl (r_assign (hA.ev rfl)) ?_; clear hA a; intro a hA
     refine go1 hA rfl rfl rfl (r_assign (hA.ev rfl)) ?_; clear hA a; intro a hA
     refine wpList_nil ?_
     refine hk13 _ _ ?_
     clear hk13 k13
     replace hA := hA.keep (.cons (i := 6) rfl (.cons (i := 7) rfl (.cons (i := 8) rfl .nil)))
     refine wp_ret ?_
     refine end3 hA rfl rfl rfl rfl ?_
     have hov := from_over hF (by omega); rw [hov]; exact ⟨_, _, rfl, hat2, hS⟩
set_option maxRecDepth 100000 in
set_option maxHeartbeats 1000000 in
theorem RefRead_calls (W : World) (A : Option Addr) (c : Nat) (bs : List UInt8) (Aq : Option Addr) (cs : Nat) (asks : List AskD) (hR : Rd W 1 (.slice A bs.length c) bs.length (bs.map bcell)) (hb : bs.length ≤ 140737488355328) (hQ : Rd W 2 (.slice Aq asks.length cs) asks.length (asks.flatMap encA)) (hw : ∀ x ∈ asks, -9223372036854775808 ≤ x.n ∧ x.n ≤ 9223372036854775807) (hl : asks.length ≤ 1000000000000) : Calls Try.prog 33 #[.slice A bs.length c, .slice Aq asks.length cs] W fun e w' => ∃ A' c', e = .returned (.tuple #[.slice A' (rdAll bs asks).1.length c', .int .i64 (rdAll bs asks).2]) ∧ Sat W w' [row 66 3 (.slice A' ((rdAll bs asks).1).length c') ((rdAll bs asks).1).length (((rdAll bs asks).1).flatMap encG)] := by
  refine enter Try.func33 rfl rfl rfl (.cons (i := 0) rfl (.cons (i := 1) rfl .nil)) ?_
  intro a hA
  have hS := Sat.start W
  refine wp_seq_k fun k1 hk1 => ?_
  refine wp_region_lit ?_
  refine go1 hA rfl rfl rfl (r_assign (hA.ev rfl)) ?_; clear hA a; intro a hA
  refine go1 hA rfl rfl rfl (r_assign (hA.ev rfl)) ?_; clear hA a; intro a hA
  refine wpList_nil ?_
  refine hk1 _ _ ?_
  clear hk1 k1
  refine wp_seq_k fun k2 hk2 => ?_
  refine wp_region_lit ?_
  refine go1 hA rfl rfl rfl (r_move (hA.ev rfl)) ?_; clear hA a; intro a hA
  refine go1 hA rfl rfl rfl (r_move (hA.ev rfl)) ?_; clear hA a; intro a hA
  refine goF hA rfl T.en39 rfl (From_calls _ A c bs 0 Aq cs asks (hR.sat hS) (Nat.zero_le _) hb (hQ.sat hS) hw hl) ?_
  clear hA a; rintro e w ⟨A', c', rfl, hpl, hT⟩; replace hS : Sat _ _ _ := hS.rebase hT; clear hT; obtain ⟨gs, i, er, hF⟩ : ∃ gs i er, fromA bs 0 asks = (gs, i, er) := ⟨_, _, _, rfl⟩; rw [hF] at hS hpl ⊢; simp only [] at hS hpl ⊢
  refine ⟨_, rfl, ?_⟩; intro a hA
  refine go1 hA rfl rfl rfl (r_move (hA.ev rfl)) ?_; clear hA a; intro a hA
  refine go1 hA rfl rfl rfl (r_ext (hA.ev rfl) rfl) ?_; clear hA a; intro a hA
  refine go1 hA rfl rfl rfl (r_ext (hA.ev rfl) rfl) ?_; clear hA a; intro a hA
  refine go1 hA rfl rfl rfl (r_ext (hA.ev rfl) rfl) ?_; clear hA a; intro a hA
  refine go1 hA rfl rfl rfl (r_assign (hA.ev rfl)) ?_; clear hA a; intro a hA
  refine go1 hA rfl rfl rfl (r_assign (hA.ev rfl)) ?_; clear hA a; intro a hA
  refine go1 hA rfl rfl rfl (r_assign (hA.ev rfl)) ?_; clear hA a; intro a hA
  refine wpList_nil ?_
  refine hk2 _ _ ?_
  clear hk2 k2
  replace hA := hA.keep (.cons (i := 0) rfl (.cons (i := 4) rfl (.cons (i := 5) rfl (.cons (i := 6) rfl (.cons (i := 7) rfl (.cons (i := 8) rfl .nil))))))
  refine wp_seq_k fun k3 hk3 => ?_
  refine wp_seq_k fun k4 hk4 => ?_
  refine wp_region_lit ?_
  refine go1 hA rfl rfl rfl (r_move (hA.ev rfl)) ?_; clear hA a; intro a hA
  refine go1s hA rfl rfl rfl (r_neq (hA.ev rfl) (hA.ev rfl)) ?_ ?_
  · clear hA a; intro h17 a hA
    try (first | contradiction | (exfalso; omega) | (exfalso; simp at h17; done))
    all_goals
     skip
     refine wpList_nil ?_
     refine hk4 _ _ ?_
     clear hk4 k4
     replace hA := hA.keep (.cons (i := 0) rfl (.cons (i := 4) rfl (.cons (i := 5) rfl (.cons (i := 6) rfl (.cons (i := 7) rfl (.cons (i := 8) rfl (.cons (i := 17) rfl .nil)))))))
     refine wp_cond_true (hA.ev rfl) ?_
     refine wp_seq_k fun k5 hk5 => ?_
     refine wp_region_lit ?_
     refine go1 hA rfl rfl rfl (r_move (hA.ev rfl)) ?_; clear hA a; intro a hA
     refine go1 hA rfl rfl rfl (r_move (hA.ev rfl)) ?_; clear hA a; intro a hA
     refine go1 hA rfl rfl rfl (r_assign (hA.ev rfl)) ?_; clear hA a; intro a hA
     refine go1 hA rfl rfl rfl (r_assign (hA.ev rfl)) ?_; clear hA a; intro a hA
     refine wpList_nil ?_
     refine hk5 _ _ ?_
     clear hk5 k5
     replace hA := hA.keep (.cons (i := 0) rfl (.cons (i := 4) rfl (.cons (i := 5) rfl (.cons (i := 6) rfl (.cons (i := 7) rfl .nil)))))
     refine wp_ret ?_
     refine then_ret ?_; clear hk3 k3
     refine end2 hA rfl rfl rfl ?_
     rw [rdAll_err hF (by omega)]; exact ⟨_, _, rfl, hS⟩
  · clear hA a; intro h17 a hA
    try (first | contradiction | (exfalso; omega) | (exfalso; simp at h17; done))
    all_goals
     skip
     refine wpList_nil ?_
     refine hk4 _ _ ?_
     clear hk4 k4
     replace hA := hA.keep (.cons (i := 0) rfl (.cons (i := 4) rfl (.cons (i := 5) rfl (.cons (i := 6) rfl (.cons (i := 7) rfl (.cons (i := 8) rfl (.cons (i := 17) rfl .nil)))))))
     refine wp_cond_false (hA.ev rfl) ?_
     refine wp_skip ?_
     refine hk3 _ _ ?_
     clear hk3 k3
     replace hA := hA.keep (.cons (i := 0) rfl (.cons (i := 4) rfl (.cons (i := 5) rfl (.cons (i := 6) rfl (.cons (i := 7) rfl .nil)))))
     refine wp_seq_k fun k6 hk6 => ?_
     refine wp_seq_k fun k7 hk7 => ?_
     refine wp_region_lit ?_
     refine go1 hA rfl rfl rfl (r_move (hA.ev rfl)) ?_; clear hA a; intro a hA
     refine go1 hA rfl rfl rfl (r_move (hA.ev rfl)) ?_; clear hA a; intro a hA
     refine go1 hA rfl rfl rfl (r_lens (hA.ev rfl) T.un22) ?_; clear hA a; intro a hA
     refine go1s hA rfl rfl rfl (r_lss (hA.ev rfl) (hA.ev rfl)) ?_ ?_
     · clear hA a; intro h23 a hA
       try (first | contradiction | (exfalso; omega) | (exfalso; simp at h23; done))
       all_goals
        skip
        refine wpList_nil ?_
        refine hk7 _ _ ?_
        clear hk7 k7
        replace hA := hA.keep (.cons (i := 4) rfl (.cons (i := 5) rfl (.cons (i := 6) rfl (.cons (i := 23) rfl .nil))))
        refine wp_cond_true (hA.ev rfl) ?_
        refine wp_seq_k fun k8 hk8 => ?_
        refine wp_region_lit ?_
        refine go1 hA rfl rfl rfl (r_move (hA.ev rfl)) ?_; clear hA a; intro a hA
        refine go1 hA rfl rfl rfl (r_assign (hA.ev rfl)) ?_; clear hA a; intro a hA
        refine go1 hA rfl rfl rfl (r_assign (hA.ev rfl)) ?_; clear hA a; intro a hA
        refine wpList_nil ?_
        refine hk8 _ _ ?_
        clear hk8 k8
        replace hA := hA.keep (.cons (i := 4) rfl (.cons (i := 5) rfl (.cons (i := 6) rfl .nil)))
        refine wp_ret ?_
        refine then_ret ?_; clear hk6 k6
        refine end2 hA rfl rfl rfl ?_
        obtain rfl : er = 0 := by omega
        rw [rdAll_rest hF (by omega)]; exact ⟨_, _, rfl, hS⟩
     · clear hA a; intro h23 a hA
       try (first | contradiction | (exfalso; omega) | (exfalso; simp at h23; done))
       all_goals
        skip
        refine wpList_nil ?_
        refine hk7 _ _ ?_
        clear hk7 k7
        replace hA := hA.keep (.cons (i := 4) rfl (.cons (i := 5) rfl (.cons (i := 6) rfl (.cons (i := 23) rfl .nil))))
        refine wp_cond_false (hA.ev rfl) ?_
        refine wp_skip ?_
        refine hk6 _ _ ?_
        clear hk6 k6
        replace hA := hA.keep (.cons (i := 4) rfl (.cons (i := 5) rfl (.cons (i := 6) rfl .nil)))
        refine wp_seq_k fun k9 hk9 => ?_
        refine wp_region_lit ?_
        refine go1 hA rfl rfl rfl (r_move (hA.ev rfl)) ?_; clear hA a; intro a hA
        refine go1 hA rfl rfl rfl (r_assign (hA.ev rfl)) ?_; clear hA a; intro a hA
        refine go1 hA rfl rfl rfl (r_assign (hA.ev rfl)) ?_; clear hA a; intro a hA
        refine wpList_nil ?_
        refine hk9 _ _ ?_
        clear hk9 k9
        replace hA := hA.keep (.cons (i := 4) rfl (.cons (i := 5) rfl .nil))
        refine wp_ret ?_
        refine end2 hA rfl rfl rfl ?_
        obtain rfl : er = 0 := by omega
        rw [rdAll_ok hF (by omega)]; exact ⟨_, _, rfl, hS⟩
set_option maxRecDepth 100000 in
set_option maxHeartbeats 1000000 in
theorem alike_calls (W : World) (A B : Option Addr) (c d : Nat) (gs : List GotD) (h1 : Rd W 3 (.slice A gs.length c) gs.length (gs.flatMap encG)) (h2 : Rd W 3 (.slice B gs.length d) gs.length (gs.flatMap encG)) (hl : gs.length ≤ 1000000000000) : Calls Try.prog 34 #[.slice A gs.length c, .slice B gs.length d] W fun e w' => e = .returned (.bool true) ∧ Sat W w' [] := by
  refine enter Try.func34 rfl rfl rfl (.cons (i := 0) rfl (.cons (i := 1) rfl .nil)) ?_
  intro a hA
  have hS := Sat.start W
  refine wp_seq_k fun k1 hk1 => ?_
  refine wp_region_lit ?_
  refine go1 hA rfl rfl rfl (r_assign (hA.ev rfl)) ?_; clear hA a; intro a hA
  refine wpList_nil ?_
  refine hk1 _ _ ?_
  clear hk1 k1
  refine wp_seq_k fun k2 hk2 => ?_
  refine wp_seq_k fun k3 hk3 => ?_
  refine wp_region_lit ?_
  refine go1 hA rfl rfl rfl (r_move (hA.ev rfl)) ?_; clear hA a; intro a hA
  refine go1 hA rfl rfl rfl (r_lens (hA.ev rfl) T.un64) ?_; clear hA a; intro a hA
  refine go1 hA rfl rfl rfl (r_move (hA.ev rfl)) ?_; clear hA a; intro a hA
  refine go1 hA rfl rfl rfl (r_lens (hA.ev rfl) T.un64) ?_; clear hA a; intro a hA
  refine go1 hA rfl rfl rfl (as_f (r_neq (hA.ev rfl) (hA.ev rfl)) (by omega)) ?_; clear hA a; intro a hA
  refine wpList_nil ?_
  refine hk3 _ _ ?_
  clear hk3 k3
  replace hA := hA.keep (.cons (i := 0) rfl (.cons (i := 1) rfl (.cons (i := 4) rfl (.cons (i := 10) rfl .nil))))
  refine wp_cond_false (hA.ev rfl) ?_
  refine wp_skip ?_
  refine hk2 _ _ ?_
  clear hk2 k2
  replace hA := hA.keep (.cons (i := 0) rfl (.cons (i := 1) rfl (.cons (i := 4) rfl .nil)))
  refine wp_seq_k fun k4 hk4 => ?_
  refine wp_seq_k fun k5 hk5 => ?_
  refine wp_region_lit ?_
  refine go1 hA rfl rfl rfl (r_assign (hA.ev rfl)) ?_; clear hA a; intro a hA
  refine wpList_nil ?_
  refine hk5 _ _ ?_
  clear hk5 k5
  refine wp_block ?_
  refine wp_loop_ghost (fun (mm : Nat) a w => ∃ (i : Nat), Ag a 26 [(0, .slice A gs.length c), (1, .slice B gs.length d), (5, .int .i64 ((i : Nat) : Int))] ∧ Sat W w ([]) ∧ (i ≤ gs.length) ∧ mm = gs.length - i) gs.length ?_ ?_
  · replace hA := hA.keep (.cons (i := 0) rfl (.cons (i := 1) rfl (.cons (i := 5) rfl .nil)))
    exact ⟨0, hA, hS, (by omega), by omega⟩
  intro m a w hI
  clear hS hA; obtain ⟨i, hA, hS, hi, rfl⟩ := hI
  refine wp_seq_k fun k6 hk6 => ?_
  refine wp_seq_k fun k7 hk7 => ?_
  refine wp_region_lit ?_
  refine go1 hA rfl rfl rfl (r_move (hA.ev rfl)) ?_; clear hA a; intro a hA
  refine go1 hA rfl rfl rfl (r_move (hA.ev rfl)) ?_; clear hA a; intro a hA
  refine go1 hA rfl rfl rfl (r_lens (hA.ev rfl) T.un64) ?_; clear hA a; intro a hA
  refine go1s hA rfl rfl rfl (r_lss (hA.ev rfl) (hA.ev rfl)) ?_ ?_
  · clear hA a; intro h14 a hA
    try (first | contradiction | (exfalso; omega) | (exfalso; simp at h14; done))
    all_goals
     skip
     refine wpList_nil ?_
     refine hk7 _ _ ?_
     clear hk7 k7
     refine wp_cond_true (hA.ev rfl) ?_
     refine wp_skip ?_
     refine hk6 _ _ ?_
     clear hk6 k6
     refine wp_seq_k fun k8 hk8 => ?_
     refine wp_block ?_
     refine wp_seq_k fun k9 hk9 => ?_
     refine qEnter (fun w' => Sat _ w' _) (by kernel_rfl) (by kernel_rfl) hS.drew ?_
     refine K.q1 hA rfl rfl rfl (fun w hS => (r_move (hA.ev rfl))) ?_; clear hA a; intro a hA
     refine K.q1 hA rfl rfl rfl (fun w hS => (r_move (hA.ev rfl))) ?_; clear hA a; intro a hA
     obtain ⟨A_p, rfl⟩ : ∃ q, A = some q := (h1.sat hS).hasAddr (by omega)
     obtain ⟨g, hx⟩ : ∃ x, gs[(i : Int).toNat]? = some x := ⟨_, List.getElem?_eq_getElem (by omega)⟩
     refine K.q1 hA rfl rfl rfl (fun w hS => (r_index (hA.ev rfl) (hA.ev rfl) T.un64 T.sz66 (by omega) (by omega))) ?_; clear hA a; intro a hA
     refine K.q1 hA rfl rfl rfl (fun w hS => (r_loadS (cs := encG g) (hA.ev rfl) T.ag66 T.sz66 (fun j u e => rdl2 (h1.sat hS) (got_at hx j u e)))) ?_; clear hA a; intro a hA
     refine K.q1 hA rfl rfl rfl (fun w hS => (r_move (hA.ev rfl))) ?_; clear hA a; intro a hA
     refine K.q1 hA rfl rfl rfl (fun w hS => (r_move (hA.ev rfl))) ?_; clear hA a; intro a hA
     obtain ⟨B_p, rfl⟩ : ∃ q, B = some q := (h2.sat hS).hasAddr (by omega)
     refine K.q1 hA rfl rfl rfl (fun w hS => (r_index (hA.ev rfl) (hA.ev rfl) T.un64 T.sz66 (by omega) (by omega))) ?_; clear hA a; intro a hA
     refine K.q1 hA rfl rfl rfl (fun w hS => (r_loadS (cs := encG g) (hA.ev rfl) T.ag66 T.sz66 (fun j u e => rdl2 (h2.sat hS) (got_at hx j u e)))) ?_; clear hA a; intro a hA
     refine K.q1 hA rfl rfl rfl (fun w hS => (as_val (r_neagg (hA.ev rfl) (hA.ev rfl) T.eg66 T.eq66) (show _ = Value.bool false from by simp))) ?_; clear hA a; intro a hA
     refine wpQuiet_nil ?_
     clear hS; intro w hS
     refine hk9 _ _ ?_
     clear hk9 k9
     refine wp_cond_false (hA.ev rfl) ?_
     refine wp_skip ?_
     refine block_normal ?_
     refine hk8 _ _ ?_
     clear hk8 k8
     refine wp_region_lit ?_
     refine go1 hA rfl rfl rfl (r_move (hA.ev rfl)) ?_; clear hA a; intro a hA
     refine go1 hA rfl rfl rfl (r_add64 (hA.ev rfl) (hA.ev rfl) (by omega) (by omega)) ?_; clear hA a; intro a hA
     refine go1 hA rfl rfl rfl (r_assign (hA.ev rfl)) ?_; clear hA a; intro a hA
     refine wpList_nil ?_
     replace hA := hA.keep (.cons (i := 0) rfl (.cons (i := 1) rfl (.cons (i := 5) rfl .nil)))
     refine ⟨_, ?_, i + 1, hA, hS, (by omega), rfl⟩
     omega
  · clear hA a; intro h14 a hA
    try (first | contradiction | (exfalso; omega) | (exfalso; simp at h14; done))
    all_goals
     skip
     refine wpList_nil ?_
     refine hk7 _ _ ?_
     clear hk7 k7
     refine wp_cond_false (hA.ev rfl) ?_
     refine wp_exit ?_
     refine then_exit ?_; clear hk6 k6
     refine then_exit ?_
     refine block_hit ?_
     refine hk4 _ _ ?_
     clear hk4 k4
     replace hA := hA.keep .nil
     refine wp_seq_k fun k10 hk10 => ?_
     refine wp_region_lit ?_
     refine go1 hA rfl rfl rfl (r_assign (hA.ev rfl)) ?_; clear hA a; intro a hA
     refine wpList_nil ?_
     refine hk10 _ _ ?_
     clear hk10 k10
     refine wp_ret ?_
     refine end1 hA rfl rfl ?_
     exact ⟨rfl, hS⟩
end Go.Proofs.Ytmnekmclpepclaa.Wk
