/- The walk of what WireReads hands to Read. Conditions: at most 10 to the 12 asks. -/
import Derived.Test.YtmnekmclpepclaaWkWire14
import Derived.Test.YtmnekmclpepclaaWkWire15
set_option linter.unusedVariables false
set_option linter.unusedSimpArgs false
namespace Go.Proofs.Ytmnekmclpepclaa.Wk
open Go Go.RowKit Go.Proofs.Ytmnekmclpepclaa Go.Proofs.Ytmnekmclpepclaa.K
theorem fin_ok {bs : List UInt8} {l : List AskD} {gs : List GotD} {i : Nat} (h : fromA bs 0 l = (gs, i, 0)) : rdAll bs l = (gs, finR true 0 i bs.length) := by
  rw [finR_t rfl, if_neg (by decide)]
  by_cases h0 : i < bs.length
  · rw [rdAll_rest h h0, if_pos (by omega)]
  · rw [rdAll_ok h h0, if_neg (by omega)]
theorem fin_err {bs : List UInt8} {l : List AskD} {gs : List GotD} {i : Nat} {e : Int} (at' : Int) (h : fromA bs 0 l = (gs, i, e)) (h0 : e ≠ 0) : rdAll bs l = (gs, finR false e at' bs.length) := by
  rw [finR_f rfl, if_pos h0, rdAll_err h h0]
theorem fin_boom {bs : List UInt8} {l : List AskD} {gs : List GotD} {i : Nat} {e : Int} (at' : Int) (h : fromA bs 0 l = (gs, i, e)) (h8 : e = 8) : rdAll bs l = (gs, finR false 0 at' bs.length) := by
  subst h8; rw [finR_f rfl, if_neg (by decide), rdAll_err h (by decide)]

set_option maxRecDepth 100000 in
set_option maxHeartbeats 1000000 in
theorem WR2_calls (W w : World) (L : List As) (r q p b7 b3 b6 : Nat) (A : Option Addr) (c : Nat) (bs : List UInt8) (Aq : Option Addr) (cs : Nat) (asks : List AskD) (hS : Sat W w (rdc r A c bs 0 true 0 :: cellP q r :: cellE p 0 :: pto b7 (.cells #[.pointer none] 60) :: pto b3 (.cells #[.slice Aq asks.length cs] 63) :: pto b6 (.cells #[.slice none (([] : List GotD)).length 0] 64) :: row 66 3 (.slice none (([] : List GotD)).length 0) (([] : List GotD)).length ((([] : List GotD)).flatMap encG) :: L)) (hb : bs.length ≤ 140737488355328) (hR : ∀ w, Sat W w L → Rd w 1 (.slice A bs.length c) bs.length (bs.map bcell)) (hQ : Rd W 2 (.slice Aq asks.length cs) asks.length (asks.flatMap encA)) (hw : ∀ x ∈ asks, -9223372036854775808 ≤ x.n ∧ x.n ≤ 9223372036854775807) (hl : asks.length ≤ 1000000000000) : Calls Try.prog 32 #[.pointer (some ⟨r, 0, none⟩), .pointer (some ⟨b7, 0, none⟩), .pointer (some ⟨b3, 0, none⟩), .pointer (some ⟨b6, 0, none⟩)] w fun e w' => ∃ (at' err : Int) (ok : Bool) (gs : List GotD) (A' : Option Addr) (c' : Nat), OutR r ok e ∧ Sat W w' (rdc r A c bs at' true err :: cellP q r :: cellE p 0 :: pto b7 (.cells #[.pointer (some ⟨r, 0, none⟩)] 60) :: pto b3 (.cells #[.slice Aq asks.length cs] 63) :: pto b6 (.cells #[.slice A' (gs).length c'] 64) :: row 66 3 (.slice A' (gs).length c') (gs).length ((gs).flatMap encG) :: L) ∧ rdAll bs asks = (gs, finR ok err at' bs.length) := by
  refine enter Try.func32 rfl rfl rfl (.cons (i := 0) rfl (.cons (i := 1) rfl (.cons (i := 2) rfl (.cons (i := 3) rfl .nil)))) ?_
  intro a hA
  change Sat W w (pto r (.cells #[.slice A bs.length c, .int .i64 0, .bool true, .int .i64 0] 100) :: cellP q r :: cellE p 0 :: pto b7 (.cells #[.pointer none] 60) :: pto b3 (.cells #[.slice Aq asks.length cs] 63) :: pto b6 (.cells #[.slice none 0 0] 64) :: row 66 3 (.slice none 0 0) 0 [] :: L) at hS
  refine wp_seq_k fun k1 hk1 => ?_
  refine wp_region_lit ?_
  refine go1 hA rfl rfl rfl (r_move (hA.ev rfl)) ?_; clear hA a; intro a hA
  first | refine goW hA rfl rfl T.fl60 T.sz60 rfl (hS.p 3) rfl ?_
  clear hS; intro w hS
  refine wpList_nil ?_
  refine hk1 _ _ ?_
  clear hk1 k1
  replace hA := hA.keep (.cons (i := 0) rfl (.cons (i := 2) rfl (.cons (i := 3) rfl .nil)))
  refine wp_seq_k fun k2 hk2 => ?_
  refine wp_region_lit ?_
  refine go1 hA rfl rfl rfl (r_assign (hA.ev rfl)) ?_; clear hA a; intro a hA
  refine wpList_nil ?_
  refine hk2 _ _ ?_
  clear hk2 k2
  refine wp_block ?_
  refine wp_loop_ghost (fun (mm : Nat) a w => ∃ (A' : Option Addr) (c' at_ i : Nat) (gs : List GotD), Ag a 22 [(0, .pointer (some ⟨r, 0, none⟩)), (2, .pointer (some ⟨b3, 0, none⟩)), (3, .pointer (some ⟨b6, 0, none⟩)), (5, .int .i64 ((i : Nat) : Int))] ∧ Sat W w (rdc r A c bs (at_ : Nat) true 0 :: cellP q r :: cellE p 0 :: pto b7 (.cells #[.pointer (some ⟨r, 0, none⟩)] 60) :: pto b3 (.cells #[.slice Aq asks.length cs] 63) :: pto b6 (.cells #[.slice A' (gs).length c'] 64) :: row 66 3 (.slice A' (gs).length c') (gs).length ((gs).flatMap encG) :: L) ∧ (i ≤ asks.length) ∧ (at_ ≤ bs.length) ∧ (gs.length ≤ i) ∧ (fromA bs 0 asks = app gs (fromA bs at_ (asks.drop i))) ∧ mm = asks.length - i) asks.length ?_ ?_
  · replace hA := hA.keep (.cons (i := 0) rfl (.cons (i := 2) rfl (.cons (i := 3) rfl (.cons (i := 5) rfl .nil))))
    exact ⟨none, 0, 0, 0, [], hA, (((hS.p 3).p 3).p 3), (by omega), (by omega), (by exact Nat.le_refl 0), (by rfl), by omega⟩
  intro m a w hI
  clear hS hA; obtain ⟨A', c', at_, i, gs, hA, hS, hi, hat2, hgl, hF, rfl⟩ := hI
  refine wp_seq_k fun k3 hk3 => ?_
  refine wp_seq_k fun k4 hk4 => ?_
  refine wp_region_lit ?_
  refine go1 hA rfl rfl rfl (r_move (hA.ev rfl)) ?_; clear hA a; intro a hA
  refine go1 hA rfl rfl rfl (r_load (hA.ev rfl) T.fl63 (by first | exact hS.cell rfl | exact (hS.p 1).cell rfl | exact (hS.p 2).cell rfl | exact (hS.p 3).cell rfl | exact (hS.p 4).cell rfl | exact (hS.p 5).cell rfl | exact (hS.p 6).cell rfl | exact (hS.p 7).cell rfl)) ?_; clear hA a; intro a hA
  refine go1 hA rfl rfl rfl (r_lens (hA.ev rfl) T.un63) ?_; clear hA a; intro a hA
  refine go1s hA rfl rfl rfl (r_lss (hA.ev rfl) (hA.ev rfl)) ?_ ?_
  · clear hA a; intro h10 a hA
    try (first | contradiction | (exfalso; omega) | (exfalso; simp at h10; done))
    all_goals
     skip
     refine wpList_nil ?_
     refine hk4 _ _ ?_
     clear hk4 k4
     refine wp_cond_true (hA.ev rfl) ?_
     refine wp_skip ?_
     refine hk3 _ _ ?_
     clear hk3 k3
     refine wp_seq_k fun k5 hk5 => ?_
     refine wp_block ?_
     refine xEnter [8, 9] (fun w' => ∃ M : List As, Sat W w' (M ++ cellP q r :: cellE p 0 :: pto b7 (.cells #[.pointer (some ⟨r, 0, none⟩)] 60) :: pto b3 (.cells #[.slice Aq asks.length cs] 63) :: pto b6 (.cells #[.slice A' (gs).length c'] 64) :: row 66 3 (.slice A' (gs).length c') (gs).length ((gs).flatMap encG) :: L)) (by kernel_rfl) ?_
     replace hS := hS.drew
     refine K.x1 0 hA (pok_block (pok_then (pok_then (pok_block pok_body)))) rfl rfl rfl rfl (by kernel_rfl) (by kernel_rfl) (by kernel_rfl) (by kernel_rfl) (by kernel_rfl) (by first | exact ⟨[_], hS⟩ | exact ⟨[_, _], hS⟩) (fun w hT => let ⟨_, hM⟩ := hT; have hS := hM.past; (r_load (hA.ev rfl) T.fl64 (by first | exact hS.cell rfl | exact (hS.p 1).cell rfl | exact (hS.p 2).cell rfl | exact (hS.p 3).cell rfl | exact (hS.p 4).cell rfl | exact (hS.p 5).cell rfl | exact (hS.p 6).cell rfl | exact (hS.p 7).cell rfl))) ?_; clear hA a; intro a hA
     refine K.p1 1 hA (pok_block (pok_then (pok_then (pok_block pok_body)))) rfl rfl rfl rfl (by kernel_rfl) (by kernel_rfl) (by kernel_rfl) (fun w => (r_move (hA.ev rfl))) ?_; clear hA a; intro a hA
     refine K.x1 2 hA (pok_block (pok_then (pok_then (pok_block pok_body)))) rfl rfl rfl rfl (by kernel_rfl) (by kernel_rfl) (by kernel_rfl) (by kernel_rfl) (by kernel_rfl) (by first | exact ⟨[_], hS⟩ | exact ⟨[_, _], hS⟩) (fun w hT => let ⟨_, hM⟩ := hT; have hS := hM.past; (r_load (hA.ev rfl) T.fl63 (by first | exact hS.cell rfl | exact (hS.p 1).cell rfl | exact (hS.p 2).cell rfl | exact (hS.p 3).cell rfl | exact (hS.p 4).cell rfl | exact (hS.p 5).cell rfl | exact (hS.p 6).cell rfl | exact (hS.p 7).cell rfl))) ?_; clear hA a; intro a hA
     refine K.p1 3 hA (pok_block (pok_then (pok_then (pok_block pok_body)))) rfl rfl rfl rfl (by kernel_rfl) (by kernel_rfl) (by kernel_rfl) (fun w => (r_move (hA.ev rfl))) ?_; clear hA a; intro a hA
     obtain ⟨Aq_p, rfl⟩ : ∃ q, Aq = some q := (hQ.sat hS).hasAddr (by omega)
     obtain ⟨x, hx⟩ : ∃ x, asks[(i : Int).toNat]? = some x := ⟨_, List.getElem?_eq_getElem (by omega)⟩
     have hx' : asks[i]? = some x := by rw [← hx]; congr 1
     obtain ⟨hw0, hw1⟩ := hw x (List.mem_of_getElem? hx')
     refine K.p1 4 hA (pok_block (pok_then (pok_then (pok_block pok_body)))) rfl rfl rfl rfl (by kernel_rfl) (by kernel_rfl) (by kernel_rfl) (fun w => (r_index (hA.ev rfl) (hA.ev rfl) T.un63 T.sz69 (by omega) (by omega))) ?_; clear hA a; intro a hA
     refine K.x1 5 hA (pok_block (pok_then (pok_then (pok_block pok_body)))) rfl rfl rfl rfl (by kernel_rfl) (by kernel_rfl) (by kernel_rfl) (by kernel_rfl) (by kernel_rfl) (by first | exact ⟨[_], hS⟩ | exact ⟨[_, _], hS⟩) (fun w hT => let ⟨_, hM⟩ := hT; have hS := hM.past; (r_loadS (cs := encA x) (hA.ev rfl) T.ag69 T.sz69 (fun j u e => rdl2 (hQ.sat hS) (ask_at hx j u e)))) ?_; clear hA a; intro a hA
     refine xOne 6 (by kernel_rfl) ?_
     refine eFP hA rfl rfl T.en31 rfl (ask_calls _ _ _ r A c bs at_ x hS (by omega) (by omega) (fun w h => hR w h.drop.drop.drop.drop.drop.drop) (by omega) (by omega)) ?_
     rintro e w (⟨h0, rfl, hS⟩ | ⟨h0, at', err, hS, (⟨he, older, rfl, ho⟩ | ⟨he, h8, tx, vx, htx, older, rfl, ho⟩)⟩)
     rotate_left 1
     · skip
       refine .inr ⟨_, rfl, ?_⟩
       refine block_panic ?_
       refine then_panic ?_; clear hk5 k5
       refine then_panic ?_
       refine block_panic ?_
       refine endP hA ?_
       rw [he] at hS; exact ⟨_, _, false, gs, A', c', .inr ⟨rfl, .inl ⟨older, rfl, ho⟩⟩, hS, fin_err at' (from_stop hF hx' h0) h0⟩
     · skip
       refine .inr ⟨_, rfl, ?_⟩
       refine block_panic ?_
       refine then_panic ?_; clear hk5 k5
       refine then_panic ?_
       refine block_panic ?_
       refine endP hA ?_
       subst he; exact ⟨_, _, false, gs, A', c', .inr ⟨rfl, .inr ⟨tx, vx, htx, older, rfl, ho⟩⟩, hS, fin_boom at' (from_stop hF hx' h0) h8⟩
     have hst := from_step hF hx' h0
     have hpl := one_place (by omega) h0
     refine .inl ⟨_, rfl, ?_⟩; clear hA a; intro a hA
     refine ⟨.inr fun _ => (by first | exact ⟨[_], hS⟩ | exact ⟨[_, _], hS⟩), ?_⟩
     refine xOne 7 (by kernel_rfl) ?_
     refine eLS (vss := [[_, _, _]]) hA rfl rfl rfl T.un64 T.el66 rfl rfl rfl (by simp) rfl hS ?_
     clear hA a hS; intro A20 w hS a hA
     refine ⟨.inr fun _ => (by first | exact ⟨[_], hS⟩ | exact ⟨[_, _], hS⟩), ?_⟩
     refine xOne 8 (by kernel_rfl) ?_
     refine eA hA rfl rfl rfl rfl T.un64 T.el66 rfl (hS.p 7) (hS.rd.src T.un64 (by simp [encG, Value.oneCell'])) (by omega) (by omega) ?_
     clear hA a hS; intro A21 c21 w hc21 hS a hA
     have ge21 : gs.length + 1 = (gs ++ [(oneA bs at_ x).1]).length := by simp
     change Sat W w (row 66 3 (.slice A21 (gs.length + 1) c21) (gs.length + 1) (gs.flatMap encG ++ encG (oneA bs at_ x).1) :: _) at hS
     rw [ge21, got_snoc] at hS
     rw [ge21] at hA
     refine ⟨.inl rfl, ?_⟩
     refine xOne 9 (by kernel_rfl) ?_
     first | refine eW hA rfl rfl rfl T.fl64 T.sz64 rfl hS rfl ?_ | refine eW hA rfl rfl rfl T.fl64 T.sz64 rfl (hS.p 1) rfl ?_ | refine eW hA rfl rfl rfl T.fl64 T.sz64 rfl (hS.p 2) rfl ?_ | refine eW hA rfl rfl rfl T.fl64 T.sz64 rfl (hS.p 3) rfl ?_ | refine eW hA rfl rfl rfl T.fl64 T.sz64 rfl (hS.p 4) rfl ?_ | refine eW hA rfl rfl rfl T.fl64 T.sz64 rfl (hS.p 5) rfl ?_ | refine eW hA rfl rfl rfl T.fl64 T.sz64 rfl (hS.p 6) rfl ?_ | refine eW hA rfl rfl rfl T.fl64 T.sz64 rfl (hS.p 7) rfl ?_
     clear hS; intro w hS
     refine ⟨.inl rfl, ?_⟩
     refine wpAnyX_done (by kernel_rfl) ?_ _
     refine block_normal ?_
     refine hk5 _ _ ?_
     clear hk5 k5
     refine wp_region_lit ?_
     refine go1 hA rfl rfl rfl (r_move (hA.ev rfl)) ?_; clear hA a; intro a hA
     refine go1 hA rfl rfl rfl (r_add64 (hA.ev rfl) (hA.ev rfl) (by omega) (by omega)) ?_; clear hA a; intro a hA
     refine go1 hA rfl rfl rfl (r_assign (hA.ev rfl)) ?_; clear hA a; intro a hA
     refine wpList_nil ?_
     replace hA := hA.keep (.cons (i := 0) rfl (.cons (i := 2) rfl (.cons (i := 3) rfl (.cons (i := 5) rfl .nil))))
     refine ⟨_, ?_, _, _, (oneA bs at_ x).2.1, i + 1, gs ++ [(oneA bs at_ x).1], hA, ((((((((hS.p 1).p 1).p 7).p 7).p 7).p 7).p 7).p 7).drop, (by omega), (by omega), (by simp; omega), (by exact hst), rfl⟩
     omega
  · clear hA a; intro h10 a hA
    try (first | contradiction | (exfalso; omega) | (exfalso; simp at h10; done))
    all_goals
     skip
     refine wpList_nil ?_
     refine hk4 _ _ ?_
     clear hk4 k4
     refine wp_cond_false (hA.ev rfl) ?_
     refine wp_exit ?_
     refine then_exit ?_; clear hk3 k3
     refine then_exit ?_
     refine block_hit ?_
     refine end_n (e := .ret) ?_
     refine end0 hA rfl  ?_
     exact ⟨_, 0, true, gs, A', c', .inl ⟨rfl, rfl⟩, hS, fin_ok (from_over hF (by omega))⟩
end Go.Proofs.Ytmnekmclpepclaa.Wk
