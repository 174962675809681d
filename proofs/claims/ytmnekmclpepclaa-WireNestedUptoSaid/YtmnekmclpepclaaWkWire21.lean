/- wire.Read where another reader's word is raised anew; ask, said by its kind. Conditions: bytes of at most 2 to the 47. -/
import Derived.Test.YtmnekmclpepclaaPWire12
import Derived.Test.YtmnekmclpepclaaWkWire17
set_option linter.unusedVariables false
set_option linter.unusedSimpArgs false
namespace Go.Proofs.Ytmnekmclpepclaa.Wk
open Go Go.RowKit Go.Proofs.Ytmnekmclpepclaa Go.Proofs.Ytmnekmclpepclaa.K
/-- How an ask of a live reader ends, said by its kind. -/
def askS (W : World) (L : List As) (r : Nat) (A : Option Addr) (c : Nat) (bs : List UInt8) (at_ : Nat) (x : AskD) (e : Ending) (w' : World) : Prop :=
  ((oneA bs at_ x).2.2 = 0 ∧ e = .returned (.agg (encG (oneA bs at_ x).1).toArray) ∧ Sat W w' (rdc r A c bs ((oneA bs at_ x).2.1 : Nat) true 0 :: L)) ∨
  ((oneA bs at_ x).2.2 ≠ 0 ∧ ∃ (at' err : Int), Sat W w' (rdc r A c bs at' true err :: L) ∧ ((err = (oneA bs at_ x).2.2 ∧ x.k ≠ 8 ∧ Pan (.iface 102 (.agg #[.pointer (some ⟨r, 0, none⟩)])) e) ∨ (err = 0 ∧ at' = at_ ∧ (oneA bs at_ x).2.2 = 8 ∧ x.k = 8 ∧ ∃ (tx : TypeId) (vx : Value), tx ≠ 102 ∧ Pan (.iface tx vx) e)))
theorem askSOk {W : World} {L : List As} {r : Nat} {A : Option Addr} {c : Nat} {bs : List UInt8} {at_ : Nat} {x : AskD} {e : Ending} {w' : World} {g : GotD} {nx : Nat} (h : oneA bs at_ x = (g, nx, 0)) (he : e = .returned (.agg (encG g).toArray)) (hS : Sat W w' (rdc r A c bs (nx : Nat) true 0 :: L)) : askS W L r A c bs at_ x e w' := by
  refine .inl ?_; rw [h]; exact ⟨rfl, he, hS⟩
theorem askSErr {W : World} {L : List As} {r : Nat} {A : Option Addr} {c : Nat} {bs : List UInt8} {at_ : Nat} {x : AskD} {e : Ending} {w' : World} {at' er : Int} (h : (oneA bs at_ x).2.2 = er) (h0 : er ≠ 0) (h8 : x.k ≠ 8) (he : Pan (.iface 102 (.agg #[.pointer (some ⟨r, 0, none⟩)])) e) (hS : Sat W w' (rdc r A c bs at' true er :: L)) : askS W L r A c bs at_ x e w' :=
  .inr ⟨by rw [h]; exact h0, at', er, hS, .inl ⟨h.symm, h8, he⟩⟩
theorem askSBoom {W : World} {L : List As} {r : Nat} {A : Option Addr} {c : Nat} {bs : List UInt8} {at_ : Nat} {x : AskD} {e : Ending} {w' : World} {tx : TypeId} {vx : Value} (h : (oneA bs at_ x).2.2 = 8) (h8 : x.k = 8) (ht : tx ≠ 102) (he : Pan (.iface tx vx) e) (hS : Sat W w' (rdc r A c bs (at_ : Nat) true 0 :: L)) : askS W L r A c bs at_ x e w' :=
  .inr ⟨by rw [h]; decide, at_, 0, hS, .inr ⟨rfl, rfl, h, h8, tx, vx, ht, he⟩⟩

set_option maxRecDepth 100000 in
set_option maxHeartbeats 1000000 in
theorem askS_calls (W w : World) (L : List As) (r : Nat) (A : Option Addr) (c : Nat) (bs : List UInt8) (at_ : Nat) (x : AskD) (hS : Sat W w (rdc r A c bs at_ true 0 :: L)) (hat : at_ ≤ bs.length) (hb : bs.length ≤ 140737488355328) (hR : ∀ w, Sat W w L → Rd w 1 (.slice A bs.length c) bs.length (bs.map bcell)) (hx0 : -9223372036854775808 ≤ x.n) (hx1 : x.n ≤ 9223372036854775807) : Calls Try.prog 31 #[.pointer (some ⟨r, 0, none⟩), .agg #[.int .i64 x.k, .int .i64 x.n]] w fun e w' => askS W (L) r A c bs at_ x e w' := by
  refine enter Try.func31 rfl rfl rfl (.cons (i := 0) rfl (.cons (i := 1) rfl .nil)) ?_
  intro a hA
  change Sat W w (pto r (.cells #[.slice A bs.length c, .int .i64 (at_ : Int), .bool true, .int .i64 0] 100) :: L) at hS
  refine wp_seq_k fun k1 hk1 => ?_
  refine wp_region_lit ?_
  refine goB hA rfl rfl hS ?_
  clear hA a hS; intro b3 w hS a hA
  refine goN hA rfl T.zv66 hS ?_
  clear hA a hS; intro b4 w hS a hA
  refine wpList_nil ?_
  refine hk1 _ _ ?_
  clear hk1 k1
  replace hA := hA.keep (.cons (i := 0) rfl (.cons (i := 3) rfl (.cons (i := 4) rfl .nil)))
  refine wp_seq_k fun k2 hk2 => ?_
  refine wp_region_lit ?_
  refine go1 hA rfl rfl rfl (r_build hA rfl T.bd66_) ?_; clear hA a; intro a hA
  refine goN hA rfl T.zv66 hS ?_
  clear hA a hS; intro b5 w hS a hA
  first | refine goWS2 (vs := [_, _, _]) (cs' := [_, _, _]) hA rfl rfl T.sz66 (by simp [Value.oneCell']) hS rfl rfl ?_ | refine goWS2 (vs := [_, _, _]) (cs' := [_, _, _]) hA rfl rfl T.sz66 (by simp [Value.oneCell']) (hS.p 1) rfl rfl ?_ | refine goWS2 (vs := [_, _, _]) (cs' := [_, _, _]) hA rfl rfl T.sz66 (by simp [Value.oneCell']) (hS.p 2) rfl rfl ?_ | refine goWS2 (vs := [_, _, _]) (cs' := [_, _, _]) hA rfl rfl T.sz66 (by simp [Value.oneCell']) (hS.p 3) rfl rfl ?_ | refine goWS2 (vs := [_, _, _]) (cs' := [_, _, _]) hA rfl rfl T.sz66 (by simp [Value.oneCell']) (hS.p 4) rfl rfl ?_
  clear hS; intro w hS
  refine wpList_nil ?_
  refine hk2 _ _ ?_
  clear hk2 k2
  replace hA := hA.keep (.cons (i := 0) rfl (.cons (i := 3) rfl (.cons (i := 4) rfl (.cons (i := 5) rfl .nil))))
  refine wp_seq_k fun k3 hk3 => ?_
  refine wp_seq_k fun k4 hk4 => ?_
  refine wp_region_lit ?_
  refine go1 hA rfl rfl rfl (r_field (hA.ev rfl) T.fo69_0) ?_; clear hA a; intro a hA
  refine go1 hA rfl rfl rfl (r_load (hA.ev rfl) T.fl3 (by first | exact hS.cell rfl | exact (hS.p 1).cell rfl | exact (hS.p 2).cell rfl | exact (hS.p 3).cell rfl | exact (hS.p 4).cell rfl)) ?_; clear hA a; intro a hA
  refine wpList_nil ?_
  refine hk4 _ _ ?_
  clear hk4 k4
  replace hA := hA.keep (.cons (i := 0) rfl (.cons (i := 3) rfl (.cons (i := 4) rfl (.cons (i := 5) rfl (.cons (i := 9) rfl .nil)))))
  refine wp_block ?_
  refine wp_seq_k fun k5 hk5 => ?_
  refine wp_region_lit ?_
  refine go1s hA rfl rfl rfl (r_eql (hA.ev rfl) (hA.ev rfl)) ?_ ?_
  · clear hA a; intro h11 a hA
    try (first | contradiction | (exfalso; omega) | (exfalso; simp at h11; done))
    all_goals
     skip
     refine go1 hA rfl rfl rfl (r_assign (hA.ev rfl)) ?_; clear hA a; intro a hA
     refine wpList_nil ?_
     refine hk5 _ _ ?_
     clear hk5 k5
     replace hA := hA.keep (.cons (i := 0) rfl (.cons (i := 3) rfl (.cons (i := 4) rfl (.cons (i := 5) rfl (.cons (i := 9) rfl (.cons (i := 10) rfl .nil))))))
     refine wp_cond_true (hA.ev rfl) ?_
     refine wp_region_lit ?_
     refine go1 hA rfl rfl rfl (r_move (hA.ev rfl)) ?_; clear hA a; intro a hA
     refine go1 hA rfl rfl rfl (r_field (hA.ev rfl) T.fo69_1) ?_; clear hA a; intro a hA
     refine go1 hA rfl rfl rfl (r_load (hA.ev rfl) T.fl3 (by first | exact hS.cell rfl | exact (hS.p 1).cell rfl | exact (hS.p 2).cell rfl | exact (hS.p 3).cell rfl | exact (hS.p 4).cell rfl)) ?_; clear hA a; intro a hA
     refine goFP hA rfl T.en28 rfl (RNum_calls _ _ _ r A c bs at_ x.n (hS.p 3) hat hb (fun w h => hR w h.drop.drop.drop)) ?_
     rintro e w (⟨hu0, rfl, hS⟩ | ⟨hu0, ⟨older, rfl, ho⟩, at', hS⟩)
     · skip
       change Sat W w (pto r _ :: pto b5 _ :: pto b4 _ :: pto b3 _ :: L) at hS
       refine .inl ⟨_, rfl, ?_⟩; clear hA a; intro a hA
       refine go1 hA rfl rfl rfl (r_field (hA.ev rfl) T.fo66_0) ?_; clear hA a; intro a hA
       first | refine goW2 (cs' := [_, _, _]) hA rfl rfl T.fl3 T.sz3 rfl hS rfl rfl ?_ | refine goW2 (cs' := [_, _, _]) hA rfl rfl T.fl3 T.sz3 rfl (hS.p 1) rfl rfl ?_ | refine goW2 (cs' := [_, _, _]) hA rfl rfl T.fl3 T.sz3 rfl (hS.p 2) rfl rfl ?_ | refine goW2 (cs' := [_, _, _]) hA rfl rfl T.fl3 T.sz3 rfl (hS.p 3) rfl rfl ?_ | refine goW2 (cs' := [_, _, _]) hA rfl rfl T.fl3 T.sz3 rfl (hS.p 4) rfl rfl ?_
       clear hS; intro w hS
       refine wpList_nil ?_
       refine block_normal ?_
       refine hk3 _ _ ?_
       clear hk3 k3
       replace hA := hA.keep (.cons (i := 4) rfl (.cons (i := 5) rfl .nil))
       refine wp_seq_k fun k6 hk6 => ?_
       refine wp_region_lit ?_
       refine go1 hA rfl rfl rfl (r_loadS (cs := [_, _, _]) (hA.ev rfl) T.ag66 T.sz66 (by first | exact hS.cellsAt (xs := [_, _, _]) rfl | exact (hS.p 1).cellsAt (xs := [_, _, _]) rfl | exact (hS.p 2).cellsAt (xs := [_, _, _]) rfl | exact (hS.p 3).cellsAt (xs := [_, _, _]) rfl | exact (hS.p 4).cellsAt (xs := [_, _, _]) rfl)) ?_; clear hA a; intro a hA
       first | refine goWS2 (vs := [_, _, _]) (cs' := [_, _, _]) hA rfl rfl T.sz66 (by simp [Value.oneCell']) hS rfl rfl ?_ | refine goWS2 (vs := [_, _, _]) (cs' := [_, _, _]) hA rfl rfl T.sz66 (by simp [Value.oneCell']) (hS.p 1) rfl rfl ?_ | refine goWS2 (vs := [_, _, _]) (cs' := [_, _, _]) hA rfl rfl T.sz66 (by simp [Value.oneCell']) (hS.p 2) rfl rfl ?_ | refine goWS2 (vs := [_, _, _]) (cs' := [_, _, _]) hA rfl rfl T.sz66 (by simp [Value.oneCell']) (hS.p 3) rfl rfl ?_ | refine goWS2 (vs := [_, _, _]) (cs' := [_, _, _]) hA rfl rfl T.sz66 (by simp [Value.oneCell']) (hS.p 4) rfl rfl ?_
       clear hS; intro w hS
       refine wpList_nil ?_
       refine hk6 _ _ ?_
       clear hk6 k6
       replace hA := hA.keep (.cons (i := 4) rfl .nil)
       refine wp_ret ?_
       refine endR1 hA rfl (resS (cs := [_, _, _]) hA rfl T.ag66 T.sz66 (by first | exact hS.cellsAt (xs := [_, _, _]) rfl | exact (hS.p 1).cellsAt (xs := [_, _, _]) rfl | exact (hS.p 2).cellsAt (xs := [_, _, _]) rfl | exact (hS.p 3).cellsAt (xs := [_, _, _]) rfl | exact (hS.p 4).cellsAt (xs := [_, _, _]) rfl)) ?_
       have h1 := oneA1 h11 (bs := bs) (i := at_); rw [hu0] at h1; exact askSOk h1 rfl ((((hS.p 2).p 3).p 3).p 3).drop.drop.drop
     · skip
       refine .inr ⟨_, rfl, ?_⟩
       refine block_panic ?_
       refine then_panic ?_; clear hk3 k3
       refine endP hA ?_
       exact askSErr (by rw [oneA1 h11]) (by omega) (by omega) ⟨older, rfl, ho⟩ (((hS.p 3).p 3).p 3).drop.drop.drop
  · clear hA a; intro h11 a hA
    try (first | contradiction | (exfalso; omega) | (exfalso; simp at h11; done))
    all_goals
     skip
     refine go1 hA rfl rfl rfl (r_assign (hA.ev rfl)) ?_; clear hA a; intro a hA
     refine wpList_nil ?_
     refine hk5 _ _ ?_
     clear hk5 k5
     replace hA := hA.keep (.cons (i := 0) rfl (.cons (i := 3) rfl (.cons (i := 4) rfl (.cons (i := 5) rfl (.cons (i := 9) rfl (.cons (i := 10) rfl .nil))))))
     refine wp_cond_false (hA.ev rfl) ?_
     refine wp_seq_k fun k7 hk7 => ?_
     refine wp_region_lit ?_
     refine go1s hA rfl rfl rfl (r_eql (hA.ev rfl) (hA.ev rfl)) ?_ ?_
     · clear hA a; intro h18 a hA
       try (first | contradiction | (exfalso; omega) | (exfalso; simp at h18; done))
       all_goals
        skip
        refine go1 hA rfl rfl rfl (r_assign (hA.ev rfl)) ?_; clear hA a; intro a hA
        refine wpList_nil ?_
        refine hk7 _ _ ?_
        clear hk7 k7
        replace hA := hA.keep (.cons (i := 0) rfl (.cons (i := 3) rfl (.cons (i := 4) rfl (.cons (i := 5) rfl (.cons (i := 9) rfl (.cons (i := 17) rfl .nil))))))
        refine wp_cond_true (hA.ev rfl) ?_
        refine wp_region_lit ?_
        refine go1 hA rfl rfl rfl (r_move (hA.ev rfl)) ?_; clear hA a; intro a hA
        refine goFP hA rfl T.en61 rfl (RFlag_calls _ _ _ r A c bs at_ (hS.p 3) hat hb (fun w h => hR w h.drop.drop.drop)) ?_
        rintro e w (⟨hu0, rfl, hS⟩ | ⟨hu0, ⟨older, rfl, ho⟩, at', hS⟩)
        · skip
          change Sat W w (pto r _ :: pto b5 _ :: pto b4 _ :: pto b3 _ :: L) at hS
          refine .inl ⟨_, rfl, ?_⟩; clear hA a; intro a hA
          refine go1 hA rfl rfl rfl (r_field (hA.ev rfl) T.fo66_1) ?_; clear hA a; intro a hA
          first | refine goW2 (cs' := [_, _, _]) hA rfl rfl T.fl4 T.sz4 rfl hS rfl rfl ?_ | refine goW2 (cs' := [_, _, _]) hA rfl rfl T.fl4 T.sz4 rfl (hS.p 1) rfl rfl ?_ | refine goW2 (cs' := [_, _, _]) hA rfl rfl T.fl4 T.sz4 rfl (hS.p 2) rfl rfl ?_ | refine goW2 (cs' := [_, _, _]) hA rfl rfl T.fl4 T.sz4 rfl (hS.p 3) rfl rfl ?_ | refine goW2 (cs' := [_, _, _]) hA rfl rfl T.fl4 T.sz4 rfl (hS.p 4) rfl rfl ?_
          clear hS; intro w hS
          refine wpList_nil ?_
          refine block_normal ?_
          refine hk3 _ _ ?_
          clear hk3 k3
          replace hA := hA.keep (.cons (i := 4) rfl (.cons (i := 5) rfl .nil))
          refine wp_seq_k fun k8 hk8 => ?_
          refine wp_region_lit ?_
          refine go1 hA rfl rfl rfl (r_loadS (cs := [_, _, _]) (hA.ev rfl) T.ag66 T.sz66 (by first | exact hS.cellsAt (xs := [_, _, _]) rfl | exact (hS.p 1).cellsAt (xs := [_, _, _]) rfl | exact (hS.p 2).cellsAt (xs := [_, _, _]) rfl | exact (hS.p 3).cellsAt (xs := [_, _, _]) rfl | exact (hS.p 4).cellsAt (xs := [_, _, _]) rfl)) ?_; clear hA a; intro a hA
          first | refine goWS2 (vs := [_, _, _]) (cs' := [_, _, _]) hA rfl rfl T.sz66 (by simp [Value.oneCell']) hS rfl rfl ?_ | refine goWS2 (vs := [_, _, _]) (cs' := [_, _, _]) hA rfl rfl T.sz66 (by simp [Value.oneCell']) (hS.p 1) rfl rfl ?_ | refine goWS2 (vs := [_, _, _]) (cs' := [_, _, _]) hA rfl rfl T.sz66 (by simp [Value.oneCell']) (hS.p 2) rfl rfl ?_ | refine goWS2 (vs := [_, _, _]) (cs' := [_, _, _]) hA rfl rfl T.sz66 (by simp [Value.oneCell']) (hS.p 3) rfl rfl ?_ | refine goWS2 (vs := [_, _, _]) (cs' := [_, _, _]) hA rfl rfl T.sz66 (by simp [Value.oneCell']) (hS.p 4) rfl rfl ?_
          clear hS; intro w hS
          refine wpList_nil ?_
          refine hk8 _ _ ?_
          clear hk8 k8
          replace hA := hA.keep (.cons (i := 4) rfl .nil)
          refine wp_ret ?_
          refine endR1 hA rfl (resS (cs := [_, _, _]) hA rfl T.ag66 T.sz66 (by first | exact hS.cellsAt (xs := [_, _, _]) rfl | exact (hS.p 1).cellsAt (xs := [_, _, _]) rfl | exact (hS.p 2).cellsAt (xs := [_, _, _]) rfl | exact (hS.p 3).cellsAt (xs := [_, _, _]) rfl | exact (hS.p 4).cellsAt (xs := [_, _, _]) rfl)) ?_
          have h1 := oneA2 h18 (bs := bs) (i := at_); rw [hu0] at h1; exact askSOk h1 rfl ((((hS.p 2).p 3).p 3).p 3).drop.drop.drop
        · skip
          refine .inr ⟨_, rfl, ?_⟩
          refine block_panic ?_
          refine then_panic ?_; clear hk3 k3
          refine endP hA ?_
          exact askSErr (by rw [oneA2 h18]) (by omega) (by omega) ⟨older, rfl, ho⟩ (((hS.p 3).p 3).p 3).drop.drop.drop
     · clear hA a; intro h18 a hA
       try (first | contradiction | (exfalso; omega) | (exfalso; simp at h18; done))
       all_goals
        skip
        refine go1 hA rfl rfl rfl (r_assign (hA.ev rfl)) ?_; clear hA a; intro a hA
        refine wpList_nil ?_
        refine hk7 _ _ ?_
        clear hk7 k7
        replace hA := hA.keep (.cons (i := 0) rfl (.cons (i := 3) rfl (.cons (i := 4) rfl (.cons (i := 5) rfl (.cons (i := 9) rfl (.cons (i := 17) rfl .nil))))))
        refine wp_cond_false (hA.ev rfl) ?_
        refine wp_seq_k fun k9 hk9 => ?_
        refine wp_region_lit ?_
        refine go1s hA rfl rfl rfl (r_eql (hA.ev rfl) (hA.ev rfl)) ?_ ?_
        · clear hA a; intro h23 a hA
          try (first | contradiction | (exfalso; omega) | (exfalso; simp at h23; done))
          all_goals
           skip
           refine go1 hA rfl rfl rfl (r_assign (hA.ev rfl)) ?_; clear hA a; intro a hA
           refine wpList_nil ?_
           refine hk9 _ _ ?_
           clear hk9 k9
           replace hA := hA.keep (.cons (i := 0) rfl (.cons (i := 3) rfl (.cons (i := 4) rfl (.cons (i := 5) rfl (.cons (i := 9) rfl (.cons (i := 22) rfl .nil))))))
           refine wp_cond_true (hA.ev rfl) ?_
           refine wp_region_lit ?_
           refine go1 hA rfl rfl rfl (r_move (hA.ev rfl)) ?_; clear hA a; intro a hA
           refine go1 hA rfl rfl rfl (r_field (hA.ev rfl) T.fo69_1) ?_; clear hA a; intro a hA
           refine go1 hA rfl rfl rfl (r_load (hA.ev rfl) T.fl3 (by first | exact hS.cell rfl | exact (hS.p 1).cell rfl | exact (hS.p 2).cell rfl | exact (hS.p 3).cell rfl | exact (hS.p 4).cell rfl)) ?_; clear hA a; intro a hA
           refine goFP hA rfl T.en62 rfl (RCount_calls _ _ _ r A c bs at_ x.n (hS.p 3) hat hb (fun w h => hR w h.drop.drop.drop) (by omega)) ?_
           rintro e w (⟨hu0, rfl, hS⟩ | ⟨hu0, ⟨older, rfl, ho⟩, at', hS⟩)
           · skip
             change Sat W w (pto r _ :: pto b5 _ :: pto b4 _ :: pto b3 _ :: L) at hS
             refine .inl ⟨_, rfl, ?_⟩; clear hA a; intro a hA
             refine go1 hA rfl rfl rfl (r_field (hA.ev rfl) T.fo66_0) ?_; clear hA a; intro a hA
             first | refine goW2 (cs' := [_, _, _]) hA rfl rfl T.fl3 T.sz3 rfl hS rfl rfl ?_ | refine goW2 (cs' := [_, _, _]) hA rfl rfl T.fl3 T.sz3 rfl (hS.p 1) rfl rfl ?_ | refine goW2 (cs' := [_, _, _]) hA rfl rfl T.fl3 T.sz3 rfl (hS.p 2) rfl rfl ?_ | refine goW2 (cs' := [_, _, _]) hA rfl rfl T.fl3 T.sz3 rfl (hS.p 3) rfl rfl ?_ | refine goW2 (cs' := [_, _, _]) hA rfl rfl T.fl3 T.sz3 rfl (hS.p 4) rfl rfl ?_
             clear hS; intro w hS
             refine wpList_nil ?_
             refine block_normal ?_
             refine hk3 _ _ ?_
             clear hk3 k3
             replace hA := hA.keep (.cons (i := 4) rfl (.cons (i := 5) rfl .nil))
             refine wp_seq_k fun k10 hk10 => ?_
             refine wp_region_lit ?_
             refine go1 hA rfl rfl rfl (r_loadS (cs := [_, _, _]) (hA.ev rfl) T.ag66 T.sz66 (by first | exact hS.cellsAt (xs := [_, _, _]) rfl | exact (hS.p 1).cellsAt (xs := [_, _, _]) rfl | exact (hS.p 2).cellsAt (xs := [_, _, _]) rfl | exact (hS.p 3).cellsAt (xs := [_, _, _]) rfl | exact (hS.p 4).cellsAt (xs := [_, _, _]) rfl)) ?_; clear hA a; intro a hA
             first | refine goWS2 (vs := [_, _, _]) (cs' := [_, _, _]) hA rfl rfl T.sz66 (by simp [Value.oneCell']) hS rfl rfl ?_ | refine goWS2 (vs := [_, _, _]) (cs' := [_, _, _]) hA rfl rfl T.sz66 (by simp [Value.oneCell']) (hS.p 1) rfl rfl ?_ | refine goWS2 (vs := [_, _, _]) (cs' := [_, _, _]) hA rfl rfl T.sz66 (by simp [Value.oneCell']) (hS.p 2) rfl rfl ?_ | refine goWS2 (vs := [_, _, _]) (cs' := [_, _, _]) hA rfl rfl T.sz66 (by simp [Value.oneCell']) (hS.p 3) rfl rfl ?_ | refine goWS2 (vs := [_, _, _]) (cs' := [_, _, _]) hA rfl rfl T.sz66 (by simp [Value.oneCell']) (hS.p 4) rfl rfl ?_
             clear hS; intro w hS
             refine wpList_nil ?_
             refine hk10 _ _ ?_
             clear hk10 k10
             replace hA := hA.keep (.cons (i := 4) rfl .nil)
             refine wp_ret ?_
             refine endR1 hA rfl (resS (cs := [_, _, _]) hA rfl T.ag66 T.sz66 (by first | exact hS.cellsAt (xs := [_, _, _]) rfl | exact (hS.p 1).cellsAt (xs := [_, _, _]) rfl | exact (hS.p 2).cellsAt (xs := [_, _, _]) rfl | exact (hS.p 3).cellsAt (xs := [_, _, _]) rfl | exact (hS.p 4).cellsAt (xs := [_, _, _]) rfl)) ?_
             have h1 := oneA5 h23 (bs := bs) (i := at_); rw [hu0] at h1; exact askSOk h1 rfl ((((hS.p 2).p 3).p 3).p 3).drop.drop.drop
           · skip
             refine .inr ⟨_, rfl, ?_⟩
             refine block_panic ?_
             refine then_panic ?_; clear hk3 k3
             refine endP hA ?_
             exact askSErr (by rw [oneA5 h23]) (by omega) (by omega) ⟨older, rfl, ho⟩ (((hS.p 3).p 3).p 3).drop.drop.drop
        · clear hA a; intro h23 a hA
          try (first | contradiction | (exfalso; omega) | (exfalso; simp at h23; done))
          all_goals
           skip
           refine go1 hA rfl rfl rfl (r_assign (hA.ev rfl)) ?_; clear hA a; intro a hA
           refine wpList_nil ?_
           refine hk9 _ _ ?_
           clear hk9 k9
           replace hA := hA.keep (.cons (i := 0) rfl (.cons (i := 3) rfl (.cons (i := 4) rfl (.cons (i := 5) rfl (.cons (i := 9) rfl (.cons (i := 22) rfl .nil))))))
           refine wp_cond_false (hA.ev rfl) ?_
           refine wp_seq_k fun k11 hk11 => ?_
           refine wp_region_lit ?_
           refine go1s hA rfl rfl rfl (r_eql (hA.ev rfl) (hA.ev rfl)) ?_ ?_
           · clear hA a; intro h30 a hA
             try (first | contradiction | (exfalso; omega) | (exfalso; simp at h30; done))
             all_goals
              skip
              refine go1 hA rfl rfl rfl (r_assign (hA.ev rfl)) ?_; clear hA a; intro a hA
              refine wpList_nil ?_
              refine hk11 _ _ ?_
              clear hk11 k11
              replace hA := hA.keep (.cons (i := 0) rfl (.cons (i := 3) rfl (.cons (i := 4) rfl (.cons (i := 5) rfl (.cons (i := 9) rfl (.cons (i := 29) rfl .nil))))))
              refine wp_cond_true (hA.ev rfl) ?_
              refine wp_region_lit ?_
              refine go1 hA rfl rfl rfl (r_move (hA.ev rfl)) ?_; clear hA a; intro a hA
              refine go1 hA rfl rfl rfl (r_field (hA.ev rfl) T.fo69_1) ?_; clear hA a; intro a hA
              refine go1 hA rfl rfl rfl (r_load (hA.ev rfl) T.fl3 (by first | exact hS.cell rfl | exact (hS.p 1).cell rfl | exact (hS.p 2).cell rfl | exact (hS.p 3).cell rfl | exact (hS.p 4).cell rfl)) ?_; clear hA a; intro a hA
              refine goFP hA rfl T.en63 rfl (RText_calls _ _ _ r A c bs at_ x.n (hS.p 3) hat hb (fun w h => hR w h.drop.drop.drop)) ?_
              rintro e w (⟨hu0, rfl, hS⟩ | ⟨hu0, ⟨older, rfl, ho⟩, at', hS⟩)
              · skip
                change Sat W w (pto r _ :: pto b5 _ :: pto b4 _ :: pto b3 _ :: L) at hS
                refine .inl ⟨_, rfl, ?_⟩; clear hA a; intro a hA
                refine go1 hA rfl rfl rfl (r_field (hA.ev rfl) T.fo66_2) ?_; clear hA a; intro a hA
                first | refine goW2 (cs' := [_, _, _]) hA rfl rfl T.fl9 T.sz9 rfl hS rfl rfl ?_ | refine goW2 (cs' := [_, _, _]) hA rfl rfl T.fl9 T.sz9 rfl (hS.p 1) rfl rfl ?_ | refine goW2 (cs' := [_, _, _]) hA rfl rfl T.fl9 T.sz9 rfl (hS.p 2) rfl rfl ?_ | refine goW2 (cs' := [_, _, _]) hA rfl rfl T.fl9 T.sz9 rfl (hS.p 3) rfl rfl ?_ | refine goW2 (cs' := [_, _, _]) hA rfl rfl T.fl9 T.sz9 rfl (hS.p 4) rfl rfl ?_
                clear hS; intro w hS
                refine wpList_nil ?_
                refine block_normal ?_
                refine hk3 _ _ ?_
                clear hk3 k3
                replace hA := hA.keep (.cons (i := 4) rfl (.cons (i := 5) rfl .nil))
                refine wp_seq_k fun k12 hk12 => ?_
                refine wp_region_lit ?_
                refine go1 hA rfl rfl rfl (r_loadS (cs := [_, _, _]) (hA.ev rfl) T.ag66 T.sz66 (by first | exact hS.cellsAt (xs := [_, _, _]) rfl | exact (hS.p 1).cellsAt (xs := [_, _, _]) rfl | exact (hS.p 2).cellsAt (xs := [_, _, _]) rfl | exact (hS.p 3).cellsAt (xs := [_, _, _]) rfl | exact (hS.p 4).cellsAt (xs := [_, _, _]) rfl)) ?_; clear hA a; intro a hA
                first | refine goWS2 (vs := [_, _, _]) (cs' := [_, _, _]) hA rfl rfl T.sz66 (by simp [Value.oneCell']) hS rfl rfl ?_ | refine goWS2 (vs := [_, _, _]) (cs' := [_, _, _]) hA rfl rfl T.sz66 (by simp [Value.oneCell']) (hS.p 1) rfl rfl ?_ | refine goWS2 (vs := [_, _, _]) (cs' := [_, _, _]) hA rfl rfl T.sz66 (by simp [Value.oneCell']) (hS.p 2) rfl rfl ?_ | refine goWS2 (vs := [_, _, _]) (cs' := [_, _, _]) hA rfl rfl T.sz66 (by simp [Value.oneCell']) (hS.p 3) rfl rfl ?_ | refine goWS2 (vs := [_, _, _]) (cs' := [_, _, _]) hA rfl rfl T.sz66 (by simp [Value.oneCell']) (hS.p 4) rfl rfl ?_
                clear hS; intro w hS
                refine wpList_nil ?_
                refine hk12 _ _ ?_
                clear hk12 k12
                replace hA := hA.keep (.cons (i := 4) rfl .nil)
                refine wp_ret ?_
                refine endR1 hA rfl (resS (cs := [_, _, _]) hA rfl T.ag66 T.sz66 (by first | exact hS.cellsAt (xs := [_, _, _]) rfl | exact (hS.p 1).cellsAt (xs := [_, _, _]) rfl | exact (hS.p 2).cellsAt (xs := [_, _, _]) rfl | exact (hS.p 3).cellsAt (xs := [_, _, _]) rfl | exact (hS.p 4).cellsAt (xs := [_, _, _]) rfl)) ?_
                have h1 := oneA34 (.inl h30) (bs := bs) (i := at_); rw [hu0] at h1; exact askSOk h1 rfl ((((hS.p 2).p 3).p 3).p 3).drop.drop.drop
              · skip
                refine .inr ⟨_, rfl, ?_⟩
                refine block_panic ?_
                refine then_panic ?_; clear hk3 k3
                refine endP hA ?_
                exact askSErr (by rw [oneA34 (.inl h30)]) (by omega) (by omega) ⟨older, rfl, ho⟩ (((hS.p 3).p 3).p 3).drop.drop.drop
           · clear hA a; intro h30 a hA
             try (first | contradiction | (exfalso; omega) | (exfalso; simp at h30; done))
             all_goals
              skip
              refine go1 hA rfl rfl rfl (r_assign (hA.ev rfl)) ?_; clear hA a; intro a hA
              refine wpList_nil ?_
              refine hk11 _ _ ?_
              clear hk11 k11
              replace hA := hA.keep (.cons (i := 0) rfl (.cons (i := 3) rfl (.cons (i := 4) rfl (.cons (i := 5) rfl (.cons (i := 9) rfl (.cons (i := 29) rfl .nil))))))
              refine wp_cond_false (hA.ev rfl) ?_
              refine wp_seq_k fun k13 hk13 => ?_
              refine wp_region_lit ?_
              refine go1s hA rfl rfl rfl (r_eql (hA.ev rfl) (hA.ev rfl)) ?_ ?_
              · clear hA a; intro h37 a hA
                try (first | contradiction | (exfalso; omega) | (exfalso; simp at h37; done))
                all_goals
                 skip
                 refine go1 hA rfl rfl rfl (r_assign (hA.ev rfl)) ?_; clear hA a; intro a hA
                 refine wpList_nil ?_
                 refine hk13 _ _ ?_
                 clear hk13 k13
                 replace hA := hA.keep (.cons (i := 0) rfl (.cons (i := 3) rfl (.cons (i := 4) rfl (.cons (i := 5) rfl (.cons (i := 9) rfl (.cons (i := 36) rfl .nil))))))
                 refine wp_cond_true (hA.ev rfl) ?_
                 refine wp_region_lit ?_
                 refine go1 hA rfl rfl rfl (r_move (hA.ev rfl)) ?_; clear hA a; intro a hA
                 refine go1 hA rfl rfl rfl (r_field (hA.ev rfl) T.fo69_1) ?_; clear hA a; intro a hA
                 refine go1 hA rfl rfl rfl (r_load (hA.ev rfl) T.fl3 (by first | exact hS.cell rfl | exact (hS.p 1).cell rfl | exact (hS.p 2).cell rfl | exact (hS.p 3).cell rfl | exact (hS.p 4).cell rfl)) ?_; clear hA a; intro a hA
                 refine goFP hA rfl T.en42 rfl (RFrame_calls _ _ _ r A c bs at_ x.n (hS.p 3) hat hb (fun w h => hR w h.drop.drop.drop)) ?_
                 rintro e w (⟨hu0, A', c', rfl, hS⟩ | ⟨hu0, ⟨older, rfl, ho⟩, at', hS⟩)
                 · skip
                   change Sat W w (pto r _ :: _ :: pto b5 _ :: pto b4 _ :: pto b3 _ :: L) at hS
                   refine .inl ⟨_, rfl, ?_⟩; clear hA a; intro a hA
                   refine go1 hA rfl rfl rfl (r_b2s (hA.ev rfl) T.un22 T.un5 T.un9 (hS.p 1).rd) ?_; clear hA a; intro a hA
                   refine go1 hA rfl rfl rfl (r_field (hA.ev rfl) T.fo66_2) ?_; clear hA a; intro a hA
                   first | refine goW2 (cs' := [_, _, _]) hA rfl rfl T.fl9 T.sz9 rfl hS rfl rfl ?_ | refine goW2 (cs' := [_, _, _]) hA rfl rfl T.fl9 T.sz9 rfl (hS.p 1) rfl rfl ?_ | refine goW2 (cs' := [_, _, _]) hA rfl rfl T.fl9 T.sz9 rfl (hS.p 2) rfl rfl ?_ | refine goW2 (cs' := [_, _, _]) hA rfl rfl T.fl9 T.sz9 rfl (hS.p 3) rfl rfl ?_ | refine goW2 (cs' := [_, _, _]) hA rfl rfl T.fl9 T.sz9 rfl (hS.p 4) rfl rfl ?_
                   clear hS; intro w hS
                   refine wpList_nil ?_
                   refine block_normal ?_
                   refine hk3 _ _ ?_
                   clear hk3 k3
                   replace hA := hA.keep (.cons (i := 4) rfl (.cons (i := 5) rfl .nil))
                   refine wp_seq_k fun k14 hk14 => ?_
                   refine wp_region_lit ?_
                   refine go1 hA rfl rfl rfl (r_loadS (cs := [_, _, _]) (hA.ev rfl) T.ag66 T.sz66 (by first | exact hS.cellsAt (xs := [_, _, _]) rfl | exact (hS.p 1).cellsAt (xs := [_, _, _]) rfl | exact (hS.p 2).cellsAt (xs := [_, _, _]) rfl | exact (hS.p 3).cellsAt (xs := [_, _, _]) rfl | exact (hS.p 4).cellsAt (xs := [_, _, _]) rfl)) ?_; clear hA a; intro a hA
                   first | refine goWS2 (vs := [_, _, _]) (cs' := [_, _, _]) hA rfl rfl T.sz66 (by simp [Value.oneCell']) hS rfl rfl ?_ | refine goWS2 (vs := [_, _, _]) (cs' := [_, _, _]) hA rfl rfl T.sz66 (by simp [Value.oneCell']) (hS.p 1) rfl rfl ?_ | refine goWS2 (vs := [_, _, _]) (cs' := [_, _, _]) hA rfl rfl T.sz66 (by simp [Value.oneCell']) (hS.p 2) rfl rfl ?_ | refine goWS2 (vs := [_, _, _]) (cs' := [_, _, _]) hA rfl rfl T.sz66 (by simp [Value.oneCell']) (hS.p 3) rfl rfl ?_ | refine goWS2 (vs := [_, _, _]) (cs' := [_, _, _]) hA rfl rfl T.sz66 (by simp [Value.oneCell']) (hS.p 4) rfl rfl ?_
                   clear hS; intro w hS
                   refine wpList_nil ?_
                   refine hk14 _ _ ?_
                   clear hk14 k14
                   replace hA := hA.keep (.cons (i := 4) rfl .nil)
                   refine wp_ret ?_
                   refine endR1 hA rfl (resS (cs := [_, _, _]) hA rfl T.ag66 T.sz66 (by first | exact hS.cellsAt (xs := [_, _, _]) rfl | exact (hS.p 1).cellsAt (xs := [_, _, _]) rfl | exact (hS.p 2).cellsAt (xs := [_, _, _]) rfl | exact (hS.p 3).cellsAt (xs := [_, _, _]) rfl | exact (hS.p 4).cellsAt (xs := [_, _, _]) rfl)) ?_
                   have h1 := oneA34 (.inr h37) (bs := bs) (i := at_); rw [hu0] at h1; exact askSOk h1 rfl (((((hS.p 2).p 4).p 4).p 4).p 4).drop.drop.drop.drop
                 · skip
                   refine .inr ⟨_, rfl, ?_⟩
                   refine block_panic ?_
                   refine then_panic ?_; clear hk3 k3
                   refine endP hA ?_
                   exact askSErr (by rw [oneA34 (.inr h37)]) (by omega) (by omega) ⟨older, rfl, ho⟩ (((hS.p 3).p 3).p 3).drop.drop.drop
              · clear hA a; intro h37 a hA
                try (first | contradiction | (exfalso; omega) | (exfalso; simp at h37; done))
                all_goals
                 skip
                 refine go1 hA rfl rfl rfl (r_assign (hA.ev rfl)) ?_; clear hA a; intro a hA
                 refine wpList_nil ?_
                 refine hk13 _ _ ?_
                 clear hk13 k13
                 replace hA := hA.keep (.cons (i := 0) rfl (.cons (i := 3) rfl (.cons (i := 4) rfl (.cons (i := 5) rfl (.cons (i := 9) rfl (.cons (i := 36) rfl .nil))))))
                 refine wp_cond_false (hA.ev rfl) ?_
                 refine wp_seq_k fun k15 hk15 => ?_
                 refine wp_region_lit ?_
                 refine go1s hA rfl rfl rfl (r_eql (hA.ev rfl) (hA.ev rfl)) ?_ ?_
                 · clear hA a; intro h45 a hA
                   try (first | contradiction | (exfalso; omega) | (exfalso; simp at h45; done))
                   all_goals
                    skip
                    refine go1 hA rfl rfl rfl (r_assign (hA.ev rfl)) ?_; clear hA a; intro a hA
                    refine wpList_nil ?_
                    refine hk15 _ _ ?_
                    clear hk15 k15
                    replace hA := hA.keep (.cons (i := 0) rfl (.cons (i := 3) rfl (.cons (i := 4) rfl (.cons (i := 5) rfl (.cons (i := 9) rfl (.cons (i := 44) rfl .nil))))))
                    refine wp_cond_true (hA.ev rfl) ?_
                    refine wp_region_lit ?_
                    refine go1 hA rfl rfl rfl (r_move (hA.ev rfl)) ?_; clear hA a; intro a hA
                    refine goF hA rfl T.en64 rfl (RLeft_calls _ _ _ r A c bs at_ (hS.p 3) hat hb (fun w h => hR w h.drop.drop.drop)) ?_
                    clear hA a; clear hS; rintro e w ⟨rfl, hS⟩; change Sat W w (pto r _ :: pto b5 _ :: pto b4 _ :: pto b3 _ :: L) at hS
                    refine ⟨_, rfl, ?_⟩; intro a hA
                    refine go1 hA rfl rfl rfl (r_field (hA.ev rfl) T.fo66_0) ?_; clear hA a; intro a hA
                    first | refine goW2 (cs' := [_, _, _]) hA rfl rfl T.fl3 T.sz3 rfl hS rfl rfl ?_ | refine goW2 (cs' := [_, _, _]) hA rfl rfl T.fl3 T.sz3 rfl (hS.p 1) rfl rfl ?_ | refine goW2 (cs' := [_, _, _]) hA rfl rfl T.fl3 T.sz3 rfl (hS.p 2) rfl rfl ?_ | refine goW2 (cs' := [_, _, _]) hA rfl rfl T.fl3 T.sz3 rfl (hS.p 3) rfl rfl ?_ | refine goW2 (cs' := [_, _, _]) hA rfl rfl T.fl3 T.sz3 rfl (hS.p 4) rfl rfl ?_
                    clear hS; intro w hS
                    refine wpList_nil ?_
                    refine block_normal ?_
                    refine hk3 _ _ ?_
                    clear hk3 k3
                    replace hA := hA.keep (.cons (i := 4) rfl (.cons (i := 5) rfl .nil))
                    refine wp_seq_k fun k16 hk16 => ?_
                    refine wp_region_lit ?_
                    refine go1 hA rfl rfl rfl (r_loadS (cs := [_, _, _]) (hA.ev rfl) T.ag66 T.sz66 (by first | exact hS.cellsAt (xs := [_, _, _]) rfl | exact (hS.p 1).cellsAt (xs := [_, _, _]) rfl | exact (hS.p 2).cellsAt (xs := [_, _, _]) rfl | exact (hS.p 3).cellsAt (xs := [_, _, _]) rfl | exact (hS.p 4).cellsAt (xs := [_, _, _]) rfl)) ?_; clear hA a; intro a hA
                    first | refine goWS2 (vs := [_, _, _]) (cs' := [_, _, _]) hA rfl rfl T.sz66 (by simp [Value.oneCell']) hS rfl rfl ?_ | refine goWS2 (vs := [_, _, _]) (cs' := [_, _, _]) hA rfl rfl T.sz66 (by simp [Value.oneCell']) (hS.p 1) rfl rfl ?_ | refine goWS2 (vs := [_, _, _]) (cs' := [_, _, _]) hA rfl rfl T.sz66 (by simp [Value.oneCell']) (hS.p 2) rfl rfl ?_ | refine goWS2 (vs := [_, _, _]) (cs' := [_, _, _]) hA rfl rfl T.sz66 (by simp [Value.oneCell']) (hS.p 3) rfl rfl ?_ | refine goWS2 (vs := [_, _, _]) (cs' := [_, _, _]) hA rfl rfl T.sz66 (by simp [Value.oneCell']) (hS.p 4) rfl rfl ?_
                    clear hS; intro w hS
                    refine wpList_nil ?_
                    refine hk16 _ _ ?_
                    clear hk16 k16
                    replace hA := hA.keep (.cons (i := 4) rfl .nil)
                    refine wp_ret ?_
                    refine endR1 hA rfl (resS (cs := [_, _, _]) hA rfl T.ag66 T.sz66 (by first | exact hS.cellsAt (xs := [_, _, _]) rfl | exact (hS.p 1).cellsAt (xs := [_, _, _]) rfl | exact (hS.p 2).cellsAt (xs := [_, _, _]) rfl | exact (hS.p 3).cellsAt (xs := [_, _, _]) rfl | exact (hS.p 4).cellsAt (xs := [_, _, _]) rfl)) ?_
                    exact askSOk (oneA6 h45) rfl ((((hS.p 2).p 3).p 3).p 3).drop.drop.drop
                 · clear hA a; intro h45 a hA
                   try (first | contradiction | (exfalso; omega) | (exfalso; simp at h45; done))
                   all_goals
                    skip
                    refine go1 hA rfl rfl rfl (r_assign (hA.ev rfl)) ?_; clear hA a; intro a hA
                    refine wpList_nil ?_
                    refine hk15 _ _ ?_
                    clear hk15 k15
                    replace hA := hA.keep (.cons (i := 0) rfl (.cons (i := 3) rfl (.cons (i := 4) rfl (.cons (i := 5) rfl (.cons (i := 9) rfl (.cons (i := 44) rfl .nil))))))
                    refine wp_cond_false (hA.ev rfl) ?_
                    refine wp_seq_k fun k17 hk17 => ?_
                    refine wp_region_lit ?_
                    refine go1s hA rfl rfl rfl (r_eql (hA.ev rfl) (hA.ev rfl)) ?_ ?_
                    · clear hA a; intro h50 a hA
                      try (first | contradiction | (exfalso; omega) | (exfalso; simp at h50; done))
                      all_goals
                       skip
                       refine go1 hA rfl rfl rfl (r_assign (hA.ev rfl)) ?_; clear hA a; intro a hA
                       refine wpList_nil ?_
                       refine hk17 _ _ ?_
                       clear hk17 k17
                       replace hA := hA.keep (.cons (i := 0) rfl (.cons (i := 3) rfl (.cons (i := 4) rfl (.cons (i := 5) rfl (.cons (i := 9) rfl (.cons (i := 49) rfl .nil))))))
                       refine wp_cond_true (hA.ev rfl) ?_
                       refine wp_region_lit ?_
                       refine go1 hA rfl rfl rfl (r_move (hA.ev rfl)) ?_; clear hA a; intro a hA
                       refine go1 hA rfl rfl rfl (r_field (hA.ev rfl) T.fo69_1) ?_; clear hA a; intro a hA
                       refine go1 hA rfl rfl rfl (r_load (hA.ev rfl) T.fl3 (by first | exact hS.cell rfl | exact (hS.p 1).cell rfl | exact (hS.p 2).cell rfl | exact (hS.p 3).cell rfl | exact (hS.p 4).cell rfl)) ?_; clear hA a; intro a hA
                       refine goFP hA rfl T.en65 rfl (RFail_calls _ _ _ r A c bs at_ x.n (hS.p 3) hat hb (fun w h => hR w h.drop.drop.drop)) ?_
                       rintro e w ⟨⟨older, rfl, ho⟩, at', hS⟩
                       · skip
                         refine .inr ⟨_, rfl, ?_⟩
                         refine block_panic ?_
                         refine then_panic ?_; clear hk3 k3
                         refine endP hA ?_
                         exact askSErr (by rw [oneA7 h50]) (by split <;> omega) (by omega) ⟨older, rfl, ho⟩ (((hS.p 3).p 3).p 3).drop.drop.drop
                    · clear hA a; intro h50 a hA
                      try (first | contradiction | (exfalso; omega) | (exfalso; simp at h50; done))
                      all_goals
                       skip
                       refine go1 hA rfl rfl rfl (r_assign (hA.ev rfl)) ?_; clear hA a; intro a hA
                       refine wpList_nil ?_
                       refine hk17 _ _ ?_
                       clear hk17 k17
                       replace hA := hA.keep (.cons (i := 0) rfl (.cons (i := 3) rfl (.cons (i := 4) rfl (.cons (i := 5) rfl (.cons (i := 9) rfl (.cons (i := 49) rfl .nil))))))
                       refine wp_cond_false (hA.ev rfl) ?_
                       refine wp_seq_k fun k18 hk18 => ?_
                       refine wp_region_lit ?_
                       refine go1s hA rfl rfl rfl (r_eql (hA.ev rfl) (hA.ev rfl)) ?_ ?_
                       · clear hA a; intro h56 a hA
                         try (first | contradiction | (exfalso; omega) | (exfalso; simp at h56; done))
                         all_goals
                          skip
                          refine go1 hA rfl rfl rfl (r_assign (hA.ev rfl)) ?_; clear hA a; intro a hA
                          refine wpList_nil ?_
                          refine hk18 _ _ ?_
                          clear hk18 k18
                          replace hA := hA.keep (.cons (i := 3) rfl (.cons (i := 4) rfl (.cons (i := 5) rfl (.cons (i := 55) rfl .nil))))
                          refine wp_cond_true (hA.ev rfl) ?_
                          refine wp_seq_k fun k19 hk19 => ?_
                          refine wp_region_lit ?_
                          refine go1 hA rfl rfl rfl (r_assign (hA.ev rfl)) ?_; clear hA a; intro a hA
                          refine wpList_nil ?_
                          refine hk19 _ _ ?_
                          clear hk19 k19
                          replace hA := hA.keep (.cons (i := 3) rfl (.cons (i := 4) rfl (.cons (i := 5) rfl (.cons (i := 6) rfl .nil))))
                          refine wp_region_lit ?_
                          refine go1 hA rfl rfl rfl (r_move (hA.ev rfl)) ?_; clear hA a; intro a hA
                          refine go1 hA rfl rfl rfl (r_field (hA.ev rfl) T.fo69_1) ?_; clear hA a; intro a hA
                          refine go1 hA rfl rfl rfl (r_load (hA.ev rfl) T.fl3 (by first | exact hS.cell rfl | exact (hS.p 1).cell rfl | exact (hS.p 2).cell rfl | exact (hS.p 3).cell rfl | exact (hS.p 4).cell rfl)) ?_; clear hA a; intro a hA
                          refine go1 hA rfl rfl rfl (r_and (hA.ev rfl) (hA.ev rfl)) ?_; clear hA a; intro a hA
                          refine goIdxNil hA rfl rfl T.un108 hS (fun v w hS => ?_)
                          refine block_panic ?_
                          refine then_panic ?_; clear hk3 k3
                          refine endP hA ?_
                          exact askSBoom (by rw [oneA8 h56]) h56 (by decide) (Pan.one _) ((((hS.p 3).p 3).p 3).p 3).drop.drop.drop
                       · clear hA a; intro h56 a hA
                         try (first | contradiction | (exfalso; omega) | (exfalso; simp at h56; done))
                         all_goals
                          skip
                          refine go1 hA rfl rfl rfl (r_assign (hA.ev rfl)) ?_; clear hA a; intro a hA
                          refine wpList_nil ?_
                          refine hk18 _ _ ?_
                          clear hk18 k18
                          replace hA := hA.keep (.cons (i := 3) rfl (.cons (i := 4) rfl (.cons (i := 5) rfl (.cons (i := 55) rfl .nil))))
                          refine wp_cond_false (hA.ev rfl) ?_
                          refine wp_skip ?_
                          refine block_normal ?_
                          refine hk3 _ _ ?_
                          clear hk3 k3
                          replace hA := hA.keep (.cons (i := 4) rfl (.cons (i := 5) rfl .nil))
                          refine wp_seq_k fun k20 hk20 => ?_
                          refine wp_region_lit ?_
                          refine go1 hA rfl rfl rfl (r_loadS (cs := [_, _, _]) (hA.ev rfl) T.ag66 T.sz66 (by first | exact hS.cellsAt (xs := [_, _, _]) rfl | exact (hS.p 1).cellsAt (xs := [_, _, _]) rfl | exact (hS.p 2).cellsAt (xs := [_, _, _]) rfl | exact (hS.p 3).cellsAt (xs := [_, _, _]) rfl | exact (hS.p 4).cellsAt (xs := [_, _, _]) rfl)) ?_; clear hA a; intro a hA
                          first | refine goWS2 (vs := [_, _, _]) (cs' := [_, _, _]) hA rfl rfl T.sz66 (by simp [Value.oneCell']) hS rfl rfl ?_ | refine goWS2 (vs := [_, _, _]) (cs' := [_, _, _]) hA rfl rfl T.sz66 (by simp [Value.oneCell']) (hS.p 1) rfl rfl ?_ | refine goWS2 (vs := [_, _, _]) (cs' := [_, _, _]) hA rfl rfl T.sz66 (by simp [Value.oneCell']) (hS.p 2) rfl rfl ?_ | refine goWS2 (vs := [_, _, _]) (cs' := [_, _, _]) hA rfl rfl T.sz66 (by simp [Value.oneCell']) (hS.p 3) rfl rfl ?_ | refine goWS2 (vs := [_, _, _]) (cs' := [_, _, _]) hA rfl rfl T.sz66 (by simp [Value.oneCell']) (hS.p 4) rfl rfl ?_
                          clear hS; intro w hS
                          refine wpList_nil ?_
                          refine hk20 _ _ ?_
                          clear hk20 k20
                          replace hA := hA.keep (.cons (i := 4) rfl .nil)
                          refine wp_ret ?_
                          refine endR1 hA rfl (resS (cs := [_, _, _]) hA rfl T.ag66 T.sz66 (by first | exact hS.cellsAt (xs := [_, _, _]) rfl | exact (hS.p 1).cellsAt (xs := [_, _, _]) rfl | exact (hS.p 2).cellsAt (xs := [_, _, _]) rfl | exact (hS.p 3).cellsAt (xs := [_, _, _]) rfl | exact (hS.p 4).cellsAt (xs := [_, _, _]) rfl)) ?_
                          exact askSOk (oneA0 h11 h18 h30 h37 h23 h45 h50 h56) rfl hS.drop.drop.drop

/-- A reader's word. -/
def GV (r : Nat) : Value := .iface 102 (.agg #[.pointer (some ⟨r, 0, none⟩)])
def rd2 (r2 : Nat) (A2 : Option Addr) (n2 c2 : Nat) (at2 err2 : Int) : As := pto r2 (.cells #[.slice A2 n2 c2, .int .i64 at2, .bool true, .int .i64 err2] 100)
set_option maxRecDepth 100000 in
set_option maxHeartbeats 1000000 in
theorem read1_outer (W w : World) (L : List As) (r q p r2 : Nat) (A A2 : Option Addr) (n c n2 c2 : Nat) (at_ err e0 at2 err2 : Int) (live : Bool) (hn : n ≤ 140737488355328) (a : Act) (hA : Ag a 59 [(0, .pointer (some ⟨q, 0, none⟩)), (1, .pointer (some ⟨p, 0, none⟩)), (2, .iface 102 (.agg #[.pointer (some ⟨r2, 0, none⟩)]))]) (hS : Sat W w (pto r (.cells #[.slice A n c, .int .i64 at_, .bool live, .int .i64 err] 100) :: pto q (.cells #[.pointer (some ⟨r, 0, none⟩)] 60) :: pto p (.cells #[.int .i64 e0] 23) :: pto r2 (.cells #[.slice A2 n2 c2, .int .i64 at2, .bool true, .int .i64 err2] 100) :: L)) : (restOf Try.f58.body).wp Try.prog (bodyPost Try.prog Try.f58 fun e w' => e = .panicked [{ v := GV r2, recovered := false }] ∧ Sat W w' (pto r (.cells #[.slice none 0 0, .int .i64 at_, .bool false, .int .i64 err] 100) :: pto q (.cells #[.pointer (some ⟨r, 0, none⟩)] 60) :: pto p (.cells #[.int .i64 e0] 23) :: pto r2 (.cells #[.slice A2 n2 c2, .int .i64 at2, .bool true, .int .i64 err2] 100) :: L)) a w := by
  refine wp_seq_k fun k1 hk1 => ?_
  refine qEnter (fun w' => Sat _ w' _) (by kernel_rfl) (by kernel_rfl) hS.drew ?_
  refine K.q1 hA rfl rfl rfl (fun w hS => (r_load (hA.ev rfl) T.fl60 (by first | exact hS.cell rfl | exact (hS.p 1).cell rfl | exact (hS.p 2).cell rfl | exact (hS.p 3).cell rfl | exact (hS.p 4).cell rfl | exact (hS.p 5).cell rfl))) ?_; clear hA a; intro a hA
  refine K.q1 hA rfl rfl rfl (fun w hS => (r_nil (hA.ev rfl))) ?_; clear hA a; intro a hA
  refine K.q1 hA rfl rfl rfl (fun w hS => (r_field (hA.ev rfl) T.fo100_1)) ?_; clear hA a; intro a hA
  refine K.q1 hA rfl rfl rfl (fun w hS => (r_load (hA.ev rfl) T.fl3 (by first | exact hS.cell rfl | exact (hS.p 1).cell rfl | exact (hS.p 2).cell rfl | exact (hS.p 3).cell rfl | exact (hS.p 4).cell rfl | exact (hS.p 5).cell rfl))) ?_; clear hA a; intro a hA
  refine K.q1 hA rfl rfl rfl (fun w hS => (r_load (hA.ev rfl) T.fl60 (by first | exact hS.cell rfl | exact (hS.p 1).cell rfl | exact (hS.p 2).cell rfl | exact (hS.p 3).cell rfl | exact (hS.p 4).cell rfl | exact (hS.p 5).cell rfl))) ?_; clear hA a; intro a hA
  refine K.q1 hA rfl rfl rfl (fun w hS => (r_nil (hA.ev rfl))) ?_; clear hA a; intro a hA
  refine K.q1 hA rfl rfl rfl (fun w hS => (r_field (hA.ev rfl) T.fo100_0)) ?_; clear hA a; intro a hA
  refine K.q1 hA rfl rfl rfl (fun w hS => (r_load (hA.ev rfl) T.fl22 (by first | exact hS.cell rfl | exact (hS.p 1).cell rfl | exact (hS.p 2).cell rfl | exact (hS.p 3).cell rfl | exact (hS.p 4).cell rfl | exact (hS.p 5).cell rfl))) ?_; clear hA a; intro a hA
  refine K.q1 hA rfl rfl rfl (fun w hS => (r_lens (hA.ev rfl) T.un22)) ?_; clear hA a; intro a hA
  refine K.q1s hA rfl rfl rfl (fun w hS => (r_lss (hA.ev rfl) (hA.ev rfl))) ?_ ?_
  · clear hA a; intro h16 a hA
    try (first | contradiction | (exfalso; omega) | (exfalso; simp at h16; done))
    all_goals
     skip
     refine K.q1 hA rfl rfl rfl (fun w hS => (r_assign (hA.ev rfl))) ?_; clear hA a; intro a hA
     refine wpQuiet_nil ?_
     clear hS; intro w hS
     refine hk1 _ _ ?_
     clear hk1 k1
     replace hA := hA.keep (.cons (i := 0) rfl (.cons (i := 1) rfl (.cons (i := 2) rfl (.cons (i := 3) rfl .nil))))
     refine wp_seq_k fun k2 hk2 => ?_
     refine wp_region_lit ?_
     refine go1 hA rfl rfl rfl (r_load (hA.ev rfl) T.fl60 (by first | exact hS.cell rfl | exact (hS.p 1).cell rfl | exact (hS.p 2).cell rfl | exact (hS.p 3).cell rfl | exact (hS.p 4).cell rfl | exact (hS.p 5).cell rfl)) ?_; clear hA a; intro a hA
     refine go1 hA rfl rfl rfl (r_load (hA.ev rfl) T.fl60 (by first | exact hS.cell rfl | exact (hS.p 1).cell rfl | exact (hS.p 2).cell rfl | exact (hS.p 3).cell rfl | exact (hS.p 4).cell rfl | exact (hS.p 5).cell rfl)) ?_; clear hA a; intro a hA
     refine go1 hA rfl rfl rfl (r_nil (hA.ev rfl)) ?_; clear hA a; intro a hA
     refine go1 hA rfl rfl rfl (r_field (hA.ev rfl) T.fo100_2) ?_; clear hA a; intro a hA
     first | refine goW hA rfl rfl T.fl4 T.sz4 rfl hS rfl ?_ | refine goW hA rfl rfl T.fl4 T.sz4 rfl (hS.p 1) rfl ?_ | refine goW hA rfl rfl T.fl4 T.sz4 rfl (hS.p 2) rfl ?_ | refine goW hA rfl rfl T.fl4 T.sz4 rfl (hS.p 3) rfl ?_ | refine goW hA rfl rfl T.fl4 T.sz4 rfl (hS.p 4) rfl ?_ | refine goW hA rfl rfl T.fl4 T.sz4 rfl (hS.p 5) rfl ?_
     clear hS; intro w hS
     refine go1 hA rfl rfl rfl (r_nil (hA.ev rfl)) ?_; clear hA a; intro a hA
     refine go1 hA rfl rfl rfl (r_field (hA.ev rfl) T.fo100_0) ?_; clear hA a; intro a hA
     first | refine goW hA rfl rfl T.fl22 T.sz22 rfl hS rfl ?_ | refine goW hA rfl rfl T.fl22 T.sz22 rfl (hS.p 1) rfl ?_ | refine goW hA rfl rfl T.fl22 T.sz22 rfl (hS.p 2) rfl ?_ | refine goW hA rfl rfl T.fl22 T.sz22 rfl (hS.p 3) rfl ?_ | refine goW hA rfl rfl T.fl22 T.sz22 rfl (hS.p 4) rfl ?_ | refine goW hA rfl rfl T.fl22 T.sz22 rfl (hS.p 5) rfl ?_
     clear hS; intro w hS
     refine wpList_nil ?_
     refine hk2 _ _ ?_
     clear hk2 k2
     replace hA := hA.keep (.cons (i := 0) rfl (.cons (i := 1) rfl (.cons (i := 2) rfl (.cons (i := 3) rfl .nil))))
     refine wp_seq_k fun k3 hk3 => ?_
     refine wp_seq_k fun k4 hk4 => ?_
     refine wp_region_lit ?_
     refine go1 hA rfl rfl rfl (r_move (hA.ev rfl)) ?_; clear hA a; intro a hA
     refine go1 hA rfl rfl rfl (r_taHit (hA.ev rfl) T.ci102) ?_; clear hA a; intro a hA
     refine go1 hA rfl rfl rfl (r_move (hA.ev rfl)) ?_; clear hA a; intro a hA
     refine go1 hA rfl rfl rfl (r_ext (hA.ev rfl) rfl) ?_; clear hA a; intro a hA
     refine go1 hA rfl rfl rfl (r_ext (hA.ev rfl) rfl) ?_; clear hA a; intro a hA
     refine goN hA rfl T.zv102 hS ?_
     clear hA a hS; intro b4 w hS a hA
     first | refine goWS2 (vs := [_]) (cs' := [_]) hA rfl rfl T.sz102 (by simp [Value.oneCell']) hS rfl rfl ?_ | refine goWS2 (vs := [_]) (cs' := [_]) hA rfl rfl T.sz102 (by simp [Value.oneCell']) (hS.p 1) rfl rfl ?_ | refine goWS2 (vs := [_]) (cs' := [_]) hA rfl rfl T.sz102 (by simp [Value.oneCell']) (hS.p 2) rfl rfl ?_ | refine goWS2 (vs := [_]) (cs' := [_]) hA rfl rfl T.sz102 (by simp [Value.oneCell']) (hS.p 3) rfl rfl ?_ | refine goWS2 (vs := [_]) (cs' := [_]) hA rfl rfl T.sz102 (by simp [Value.oneCell']) (hS.p 4) rfl rfl ?_ | refine goWS2 (vs := [_]) (cs' := [_]) hA rfl rfl T.sz102 (by simp [Value.oneCell']) (hS.p 5) rfl rfl ?_
     clear hS; intro w hS
     refine go1 hA rfl rfl rfl (r_assign (hA.ev rfl)) ?_; clear hA a; intro a hA
     refine wpList_nil ?_
     refine hk4 _ _ ?_
     clear hk4 k4
     replace hA := hA.keep (.cons (i := 0) rfl (.cons (i := 1) rfl (.cons (i := 2) rfl (.cons (i := 3) rfl (.cons (i := 4) rfl (.cons (i := 5) rfl .nil))))))
     refine wp_seq_k fun k5 hk5 => ?_
     refine wp_region_lit ?_
     refine go1 hA rfl rfl rfl (r_move (hA.ev rfl)) ?_; clear hA a; intro a hA
     refine go1 hA rfl rfl rfl (r_move (hA.ev rfl)) ?_; clear hA a; intro a hA
     refine go1y hA (wanted_yes hA rfl rfl rfl) rfl rfl (r_field (hA.ev rfl) T.fo102_0) ?_; clear hA a; intro a hA
     refine go1y hA (wanted_yes hA rfl rfl rfl) rfl rfl (r_load (hA.ev rfl) T.fl60 (by first | exact hS.cell rfl | exact (hS.p 1).cell rfl | exact (hS.p 2).cell rfl | exact (hS.p 3).cell rfl | exact (hS.p 4).cell rfl | exact (hS.p 5).cell rfl)) ?_; clear hA a; intro a hA
     refine go1y hA (wanted_yes hA rfl rfl rfl) rfl rfl (r_load (hA.ev rfl) T.fl60 (by first | exact hS.cell rfl | exact (hS.p 1).cell rfl | exact (hS.p 2).cell rfl | exact (hS.p 3).cell rfl | exact (hS.p 4).cell rfl | exact (hS.p 5).cell rfl)) ?_; clear hA a; intro a hA
     refine go1y hA (wanted_yes hA rfl rfl rfl) rfl rfl (r_nepD (hA.ev rfl) (hA.ev rfl) T.un60 (k := 3) (show (Try.prog.info? 100).map (·.size) = some 4 by kernel_rfl) (hS.p 4).block.1 (hS.p 1).block.1 ((hS.p 1).p 4).ne) ?_; clear hA a; intro a hA
     refine go1 hA rfl rfl rfl (r_pick_t (hA.ev rfl) (hA.ev rfl)) ?_; clear hA a; intro a hA
     refine go1 hA rfl rfl rfl (r_move (hA.ev rfl)) ?_; clear hA a; intro a hA
     refine go1y hA (wanted_yes hA rfl rfl rfl) rfl rfl (r_field (hA.ev rfl) T.fo102_0) ?_; clear hA a; intro a hA
     refine go1y hA (wanted_yes hA rfl rfl rfl) rfl rfl (r_load (hA.ev rfl) T.fl60 (by first | exact hS.cell rfl | exact (hS.p 1).cell rfl | exact (hS.p 2).cell rfl | exact (hS.p 3).cell rfl | exact (hS.p 4).cell rfl | exact (hS.p 5).cell rfl)) ?_; clear hA a; intro a hA
     refine go1y hA (wanted_yes hA rfl rfl rfl) rfl rfl (r_nil (hA.ev rfl)) ?_; clear hA a; intro a hA
     refine go1y hA (wanted_yes hA rfl rfl rfl) rfl rfl (r_field (hA.ev rfl) T.fo100_2) ?_; clear hA a; intro a hA
     refine go1y hA (wanted_yes hA rfl rfl rfl) rfl rfl (r_load (hA.ev rfl) T.fl4 (by first | exact hS.cell rfl | exact (hS.p 1).cell rfl | exact (hS.p 2).cell rfl | exact (hS.p 3).cell rfl | exact (hS.p 4).cell rfl | exact (hS.p 5).cell rfl)) ?_; clear hA a; intro a hA
     refine go1 hA rfl rfl rfl (r_pick_t (hA.ev rfl) (hA.ev rfl)) ?_; clear hA a; intro a hA
     refine wpList_nil ?_
     refine hk5 _ _ ?_
     clear hk5 k5
     replace hA := hA.keep (.cons (i := 0) rfl (.cons (i := 1) rfl (.cons (i := 2) rfl (.cons (i := 3) rfl (.cons (i := 4) rfl (.cons (i := 41) rfl .nil))))))
     refine wp_cond_true (hA.ev rfl) ?_
     refine wp_region_lit ?_
     refine go1 hA rfl rfl rfl (r_loadS (cs := [_]) (hA.ev rfl) T.ag102 T.sz102 (by first | exact hS.cellsAt (xs := [_]) rfl | exact (hS.p 1).cellsAt (xs := [_]) rfl | exact (hS.p 2).cellsAt (xs := [_]) rfl | exact (hS.p 3).cellsAt (xs := [_]) rfl | exact (hS.p 4).cellsAt (xs := [_]) rfl | exact (hS.p 5).cellsAt (xs := [_]) rfl)) ?_; clear hA a; intro a hA
     refine go1 hA rfl rfl rfl (r_mkI (hA.ev rfl) T.ci102) ?_; clear hA a; intro a hA
     refine goPan hA rfl ?_
     refine then_panic ?_; clear hk3 k3
     refine endP hA ?_
     exact ⟨rfl, hS.drop⟩
  · clear hA a; intro h16 a hA
    try (first | contradiction | (exfalso; omega) | (exfalso; simp at h16; done))
    all_goals
     skip
     refine K.q1 hA rfl rfl rfl (fun w hS => (r_assign (hA.ev rfl))) ?_; clear hA a; intro a hA
     refine wpQuiet_nil ?_
     clear hS; intro w hS
     refine hk1 _ _ ?_
     clear hk1 k1
     replace hA := hA.keep (.cons (i := 0) rfl (.cons (i := 1) rfl (.cons (i := 2) rfl (.cons (i := 3) rfl .nil))))
     refine wp_seq_k fun k6 hk6 => ?_
     refine wp_region_lit ?_
     refine go1 hA rfl rfl rfl (r_load (hA.ev rfl) T.fl60 (by first | exact hS.cell rfl | exact (hS.p 1).cell rfl | exact (hS.p 2).cell rfl | exact (hS.p 3).cell rfl | exact (hS.p 4).cell rfl | exact (hS.p 5).cell rfl)) ?_; clear hA a; intro a hA
     refine go1 hA rfl rfl rfl (r_load (hA.ev rfl) T.fl60 (by first | exact hS.cell rfl | exact (hS.p 1).cell rfl | exact (hS.p 2).cell rfl | exact (hS.p 3).cell rfl | exact (hS.p 4).cell rfl | exact (hS.p 5).cell rfl)) ?_; clear hA a; intro a hA
     refine go1 hA rfl rfl rfl (r_nil (hA.ev rfl)) ?_; clear hA a; intro a hA
     refine go1 hA rfl rfl rfl (r_field (hA.ev rfl) T.fo100_2) ?_; clear hA a; intro a hA
     first | refine goW hA rfl rfl T.fl4 T.sz4 rfl hS rfl ?_ | refine goW hA rfl rfl T.fl4 T.sz4 rfl (hS.p 1) rfl ?_ | refine goW hA rfl rfl T.fl4 T.sz4 rfl (hS.p 2) rfl ?_ | refine goW hA rfl rfl T.fl4 T.sz4 rfl (hS.p 3) rfl ?_ | refine goW hA rfl rfl T.fl4 T.sz4 rfl (hS.p 4) rfl ?_ | refine goW hA rfl rfl T.fl4 T.sz4 rfl (hS.p 5) rfl ?_
     clear hS; intro w hS
     refine go1 hA rfl rfl rfl (r_nil (hA.ev rfl)) ?_; clear hA a; intro a hA
     refine go1 hA rfl rfl rfl (r_field (hA.ev rfl) T.fo100_0) ?_; clear hA a; intro a hA
     first | refine goW hA rfl rfl T.fl22 T.sz22 rfl hS rfl ?_ | refine goW hA rfl rfl T.fl22 T.sz22 rfl (hS.p 1) rfl ?_ | refine goW hA rfl rfl T.fl22 T.sz22 rfl (hS.p 2) rfl ?_ | refine goW hA rfl rfl T.fl22 T.sz22 rfl (hS.p 3) rfl ?_ | refine goW hA rfl rfl T.fl22 T.sz22 rfl (hS.p 4) rfl ?_ | refine goW hA rfl rfl T.fl22 T.sz22 rfl (hS.p 5) rfl ?_
     clear hS; intro w hS
     refine wpList_nil ?_
     refine hk6 _ _ ?_
     clear hk6 k6
     replace hA := hA.keep (.cons (i := 0) rfl (.cons (i := 1) rfl (.cons (i := 2) rfl (.cons (i := 3) rfl .nil))))
     refine wp_seq_k fun k7 hk7 => ?_
     refine wp_seq_k fun k8 hk8 => ?_
     refine wp_region_lit ?_
     refine go1 hA rfl rfl rfl (r_move (hA.ev rfl)) ?_; clear hA a; intro a hA
     refine go1 hA rfl rfl rfl (r_taHit (hA.ev rfl) T.ci102) ?_; clear hA a; intro a hA
     refine go1 hA rfl rfl rfl (r_move (hA.ev rfl)) ?_; clear hA a; intro a hA
     refine go1 hA rfl rfl rfl (r_ext (hA.ev rfl) rfl) ?_; clear hA a; intro a hA
     refine go1 hA rfl rfl rfl (r_ext (hA.ev rfl) rfl) ?_; clear hA a; intro a hA
     refine goN hA rfl T.zv102 hS ?_
     clear hA a hS; intro b4 w hS a hA
     first | refine goWS2 (vs := [_]) (cs' := [_]) hA rfl rfl T.sz102 (by simp [Value.oneCell']) hS rfl rfl ?_ | refine goWS2 (vs := [_]) (cs' := [_]) hA rfl rfl T.sz102 (by simp [Value.oneCell']) (hS.p 1) rfl rfl ?_ | refine goWS2 (vs := [_]) (cs' := [_]) hA rfl rfl T.sz102 (by simp [Value.oneCell']) (hS.p 2) rfl rfl ?_ | refine goWS2 (vs := [_]) (cs' := [_]) hA rfl rfl T.sz102 (by simp [Value.oneCell']) (hS.p 3) rfl rfl ?_ | refine goWS2 (vs := [_]) (cs' := [_]) hA rfl rfl T.sz102 (by simp [Value.oneCell']) (hS.p 4) rfl rfl ?_ | refine goWS2 (vs := [_]) (cs' := [_]) hA rfl rfl T.sz102 (by simp [Value.oneCell']) (hS.p 5) rfl rfl ?_
     clear hS; intro w hS
     refine go1 hA rfl rfl rfl (r_assign (hA.ev rfl)) ?_; clear hA a; intro a hA
     refine wpList_nil ?_
     refine hk8 _ _ ?_
     clear hk8 k8
     replace hA := hA.keep (.cons (i := 0) rfl (.cons (i := 1) rfl (.cons (i := 2) rfl (.cons (i := 3) rfl (.cons (i := 4) rfl (.cons (i := 5) rfl .nil))))))
     refine wp_seq_k fun k9 hk9 => ?_
     refine wp_region_lit ?_
     refine go1 hA rfl rfl rfl (r_move (hA.ev rfl)) ?_; clear hA a; intro a hA
     refine go1 hA rfl rfl rfl (r_move (hA.ev rfl)) ?_; clear hA a; intro a hA
     refine go1y hA (wanted_yes hA rfl rfl rfl) rfl rfl (r_field (hA.ev rfl) T.fo102_0) ?_; clear hA a; intro a hA
     refine go1y hA (wanted_yes hA rfl rfl rfl) rfl rfl (r_load (hA.ev rfl) T.fl60 (by first | exact hS.cell rfl | exact (hS.p 1).cell rfl | exact (hS.p 2).cell rfl | exact (hS.p 3).cell rfl | exact (hS.p 4).cell rfl | exact (hS.p 5).cell rfl)) ?_; clear hA a; intro a hA
     refine go1y hA (wanted_yes hA rfl rfl rfl) rfl rfl (r_load (hA.ev rfl) T.fl60 (by first | exact hS.cell rfl | exact (hS.p 1).cell rfl | exact (hS.p 2).cell rfl | exact (hS.p 3).cell rfl | exact (hS.p 4).cell rfl | exact (hS.p 5).cell rfl)) ?_; clear hA a; intro a hA
     refine go1y hA (wanted_yes hA rfl rfl rfl) rfl rfl (r_nepD (hA.ev rfl) (hA.ev rfl) T.un60 (k := 3) (show (Try.prog.info? 100).map (·.size) = some 4 by kernel_rfl) (hS.p 4).block.1 (hS.p 1).block.1 ((hS.p 1).p 4).ne) ?_; clear hA a; intro a hA
     refine go1 hA rfl rfl rfl (r_pick_t (hA.ev rfl) (hA.ev rfl)) ?_; clear hA a; intro a hA
     refine go1 hA rfl rfl rfl (r_move (hA.ev rfl)) ?_; clear hA a; intro a hA
     refine go1y hA (wanted_yes hA rfl rfl rfl) rfl rfl (r_field (hA.ev rfl) T.fo102_0) ?_; clear hA a; intro a hA
     refine go1y hA (wanted_yes hA rfl rfl rfl) rfl rfl (r_load (hA.ev rfl) T.fl60 (by first | exact hS.cell rfl | exact (hS.p 1).cell rfl | exact (hS.p 2).cell rfl | exact (hS.p 3).cell rfl | exact (hS.p 4).cell rfl | exact (hS.p 5).cell rfl)) ?_; clear hA a; intro a hA
     refine go1y hA (wanted_yes hA rfl rfl rfl) rfl rfl (r_nil (hA.ev rfl)) ?_; clear hA a; intro a hA
     refine go1y hA (wanted_yes hA rfl rfl rfl) rfl rfl (r_field (hA.ev rfl) T.fo100_2) ?_; clear hA a; intro a hA
     refine go1y hA (wanted_yes hA rfl rfl rfl) rfl rfl (r_load (hA.ev rfl) T.fl4 (by first | exact hS.cell rfl | exact (hS.p 1).cell rfl | exact (hS.p 2).cell rfl | exact (hS.p 3).cell rfl | exact (hS.p 4).cell rfl | exact (hS.p 5).cell rfl)) ?_; clear hA a; intro a hA
     refine go1 hA rfl rfl rfl (r_pick_t (hA.ev rfl) (hA.ev rfl)) ?_; clear hA a; intro a hA
     refine wpList_nil ?_
     refine hk9 _ _ ?_
     clear hk9 k9
     replace hA := hA.keep (.cons (i := 0) rfl (.cons (i := 1) rfl (.cons (i := 2) rfl (.cons (i := 3) rfl (.cons (i := 4) rfl (.cons (i := 41) rfl .nil))))))
     refine wp_cond_true (hA.ev rfl) ?_
     refine wp_region_lit ?_
     refine go1 hA rfl rfl rfl (r_loadS (cs := [_]) (hA.ev rfl) T.ag102 T.sz102 (by first | exact hS.cellsAt (xs := [_]) rfl | exact (hS.p 1).cellsAt (xs := [_]) rfl | exact (hS.p 2).cellsAt (xs := [_]) rfl | exact (hS.p 3).cellsAt (xs := [_]) rfl | exact (hS.p 4).cellsAt (xs := [_]) rfl | exact (hS.p 5).cellsAt (xs := [_]) rfl)) ?_; clear hA a; intro a hA
     refine go1 hA rfl rfl rfl (r_mkI (hA.ev rfl) T.ci102) ?_; clear hA a; intro a hA
     refine goPan hA rfl ?_
     refine then_panic ?_; clear hk7 k7
     refine endP hA ?_
     exact ⟨rfl, hS.drop⟩
set_option maxRecDepth 100000 in
theorem read_leavesP {R : Ending → World → Prop} {a : Act} {E : Env} (W w : World) (M : List As) (q p : Nat) (x v2 : Value) (older : List PanicEntry)
    (htail : ∀ a, Ag a 59 [(0, .pointer (some ⟨q, 0, none⟩)), (1, .pointer (some ⟨p, 0, none⟩)), (2, x)] → (restOf Try.f58.body).wp Try.prog (bodyPost Try.prog Try.f58 fun e w' => e = .panicked [{ v := v2, recovered := false }] ∧ Sat W w' M) a w)
    (hA : AgD [{ target := .fn (.func 58) #[.pointer (some ⟨q, 0, none⟩), .pointer (some ⟨p, 0, none⟩)], args := #[] }] a 15 E)
    (hR : ∀ w', Sat W w' M → R (.panicked ({ v := v2, recovered := false } :: { v := x, recovered := true } :: older)) w') : Leaves Try.prog Try.f26 a.tmps R a.defers (.panicking ({ v := x, recovered := false } :: older)) w := by
  rw [hA.defers]
  have hinv : (invoke (.fn (.func 58) #[.pointer (some ⟨q, 0, none⟩), .pointer (some ⟨p, 0, none⟩)]) #[]).run Try.prog w = .ok (.enter 58 #[.pointer (some ⟨q, 0, none⟩), .pointer (some ⟨p, 0, none⟩)]) w := by
    have h := run_callFunc (w := w) (args := #[.pointer (some ⟨q, 0, none⟩), .pointer (some ⟨p, 0, none⟩)]) T.en58
    have e : (#[] : Array Value) ++ #[.pointer (some ⟨q, 0, none⟩), .pointer (some ⟨p, 0, none⟩)] = #[.pointer (some ⟨q, 0, none⟩), .pointer (some ⟨p, 0, none⟩)] := by simp
    show (callFunc 58 ((#[] : Array Value) ++ #[.pointer (some ⟨q, 0, none⟩), .pointer (some ⟨p, 0, none⟩)])).run Try.prog w = _
    rw [e, h]
  refine leaves_cons (by simp) hinv (CallsD.mono (read1_enter x (.panicking ({ v := x, recovered := false } :: older)) (.panicking ({ v := x, recovered := true } :: older)) w q p (fun c₀ cs hc => .inl (recR c₀ cs hc)) htail) fun e v w' hh => ?_)
  obtain ⟨rfl, rfl, hS⟩ := hh
  exact hR w' hS
section
open K.D
set_option maxRecDepth 100000 in
set_option maxHeartbeats 1000000 in
theorem ReadN_calls (W w : World) (L : List As) (A : Option Addr) (c : Nat) (bs : List UInt8) (r2 : Nat) (Φ : Nat → Int → Int → Bool → List As → Prop) (Ψ : Option Addr → Nat → Nat → Int → Int → List As → Prop) (fid : Nat) (caps : List Value) (hS : Sat W w (L)) (hb : bs.length ≤ 140737488355328) (hen : enters Try.prog fid = true) (hcl : ∀ (w : World) (r q p : Nat), Sat W w (rdc r A c bs 0 true 0 :: cellP q r :: cellE p 0 :: L) → Calls Try.prog fid ([Value.pointer (some ⟨r, 0, none⟩)] ++ caps).toArray w fun e w' => (∃ (at' err : Int) (ok : Bool) (M : List As), OutR r ok e ∧ Sat W w' (rdc r A c bs at' true err :: cellP q r :: cellE p 0 :: M) ∧ Φ r at' err ok M) ∨ (∃ (at' err : Int) (A2 : Option Addr) (n2 c2 : Nat) (at2 err2 : Int) (M : List As), Pan (GV r2) e ∧ Sat W w' (rdc r A c bs at' true err :: cellP q r :: cellE p 0 :: rd2 r2 A2 n2 c2 at2 err2 :: M) ∧ Ψ A2 n2 c2 at2 err2 M)) : Calls Try.prog 26 #[.slice A bs.length c, .func (.func fid) #[] caps.toArray] w fun e w' => (∃ (r q p : Nat) (at' err : Int) (ok : Bool) (M : List As), e = .returned (.int .i64 (finR ok err at' bs.length)) ∧ Sat W w' (dead r at' err :: cellP q r :: cellE p (finR ok err at' bs.length) :: M) ∧ Φ r at' err ok M) ∨ (∃ (r q p : Nat) (at' err : Int) (A2 : Option Addr) (n2 c2 : Nat) (at2 err2 : Int) (M : List As), Pan (GV r2) e ∧ Sat W w' (dead r at' err :: cellP q r :: cellE p 0 :: rd2 r2 A2 n2 c2 at2 err2 :: M) ∧ Ψ A2 n2 c2 at2 err2 M) := by
  refine enterDf Try.func26 rfl rfl rfl (.cons (i := 0) rfl (.cons (i := 1) rfl .nil)) ?_
  intro a hA
  refine wp_seq_k fun k1 hk1 => ?_
  refine wp_region_lit ?_
  refine goN hA rfl T.zv23 hS ?_
  clear hA a hS; intro b4 w hS a hA
  refine wpList_nil ?_
  refine hk1 _ _ ?_
  clear hk1 k1
  refine wp_seq_k fun k2 hk2 => ?_
  refine wp_region_lit ?_
  refine go1 hA rfl rfl rfl (r_move (hA.ev rfl)) ?_; clear hA a; intro a hA
  refine go1 hA rfl rfl rfl (r_build hA rfl T.bd100_0_2) ?_; clear hA a; intro a hA
  refine goB hA rfl rfl hS ?_
  clear hA a hS; intro b8 w hS a hA
  refine goN hA rfl T.zv60 hS ?_
  clear hA a hS; intro b5 w hS a hA
  first | refine goW hA rfl rfl T.fl60 T.sz60 rfl hS rfl ?_ | refine goW hA rfl rfl T.fl60 T.sz60 rfl (hS.p 1) rfl ?_ | refine goW hA rfl rfl T.fl60 T.sz60 rfl (hS.p 2) rfl ?_
  clear hS; intro w hS
  refine wpList_nil ?_
  refine hk2 _ _ ?_
  clear hk2 k2
  replace hA := hA.keep (.cons (i := 1) rfl (.cons (i := 4) rfl (.cons (i := 5) rfl .nil)))
  refine wp_seq_k fun k3 hk3 => ?_
  refine wp_region_lit ?_
  refine go1 hA rfl rfl rfl (r_mkF (hA.evl rfl)) ?_; clear hA a; intro a hA
  refine goDefer hA rfl ?_; clear hA a; intro a hA
  refine wpList_nil ?_
  refine hk3 _ _ ?_
  clear hk3 k3
  replace hA := hA.keep (.cons (i := 1) rfl (.cons (i := 4) rfl (.cons (i := 5) rfl .nil)))
  refine wp_seq_k fun k4 hk4 => ?_
  refine wp_seq_k fun k5 hk5 => ?_
  refine wp_region_lit ?_
  refine go1 hA rfl rfl rfl (r_move (hA.ev rfl)) ?_; clear hA a; intro a hA
  refine go1 hA rfl rfl rfl (r_neqF (hA.ev rfl) (hA.ev rfl) (isFunc_get T.uf61).choose_spec.choose_spec.choose_spec) ?_; clear hA a; intro a hA
  refine wpList_nil ?_
  refine hk5 _ _ ?_
  clear hk5 k5
  replace hA := hA.keep (.cons (i := 1) rfl (.cons (i := 4) rfl (.cons (i := 5) rfl (.cons (i := 11) rfl .nil))))
  refine wp_cond_true (hA.ev rfl) ?_
  refine wp_region_lit ?_
  refine go1 hA rfl rfl rfl (r_move (hA.ev rfl)) ?_; clear hA a; intro a hA
  refine go1 hA rfl rfl rfl (r_load (hA.ev rfl) T.fl60 (by first | exact hS.cell rfl | exact (hS.p 1).cell rfl | exact (hS.p 2).cell rfl)) ?_; clear hA a; intro a hA
  refine goVP hA rfl hen rfl rfl (hcl _ b8 b5 b4 hS.pull1) ?_
  obtain ⟨r, hr⟩ : ∃ r, r = b8 := ⟨_, rfl⟩; obtain ⟨q, hq⟩ : ∃ q, q = b5 := ⟨_, rfl⟩; obtain ⟨p, hp⟩ : ∃ p, p = b4 := ⟨_, rfl⟩; subst hr hq hp; clear hS; rintro e w (⟨at', err, ok, M, (⟨hok, rfl⟩ | ⟨hok, (⟨older, rfl, ho⟩ | ⟨tx, vx, htx, older, rfl, ho⟩)⟩), hS, hΦ⟩ | ⟨at', err, A2, n2, c2, at2, err2, M, ⟨older, rfl, ho⟩, hS, hΨ⟩)
  · skip
    change Sat W w (pto r (.cells #[.slice A bs.length c, .int .i64 at', .bool true, .int .i64 err] 100) :: pto q (.cells #[.pointer (some ⟨r, 0, none⟩)] 60) :: pto p (.cells #[.int .i64 0] 23) :: M) at hS
    refine .inl ⟨_, rfl, ?_⟩; clear hA a; intro a hA
    refine wpList_nil ?_
    refine hk4 _ _ ?_
    clear hk4 k4
    replace hA := hA.keep (.cons (i := 4) rfl .nil)
    refine wp_seq_k fun k6 hk6 => ?_
    refine wp_region_lit ?_
    first | refine goW hA rfl rfl T.fl23 T.sz23 rfl (hS.p 2) rfl ?_
    clear hS; intro w hS
    refine wpList_nil ?_
    refine hk6 _ _ ?_
    clear hk6 k6
    refine wp_ret ?_
    replace hS := ((hS.p 2).p 2)
    exact read_leaves W w M r q p at' err .nilIface .returning .returning (by simp) (fun c₀ cs hc => .inr ⟨recN c₀ cs hc, rfl, rfl⟩) rfl (finR ok err at' bs.length) (fun a hA => by have hh := read1_nil W w M r q p A bs.length c at' err 0 true hb a hA hS; rw [finR_t hok]; exact hh) hA rfl (fun w' hS => .inl ⟨r, q, p, at', err, ok, M, by first | rfl | (unfold finR; simp [hok]), hS, hΦ⟩)
  · skip
    refine .inr ⟨_, rfl, ?_⟩
    refine then_panic ?_; clear hk4 k4
    change Sat W w (pto r (.cells #[.slice A bs.length c, .int .i64 at', .bool true, .int .i64 err] 100) :: pto q (.cells #[.pointer (some ⟨r, 0, none⟩)] 60) :: pto p (.cells #[.int .i64 0] 23) :: M) at hS; exact read_leaves W w M r q p at' err (.iface 102 (.agg #[.pointer (some ⟨r, 0, none⟩)])) (.panicking ({ v := (.iface 102 (.agg #[.pointer (some ⟨r, 0, none⟩)])), recovered := false } :: older)) (.panicking ({ v := (.iface 102 (.agg #[.pointer (some ⟨r, 0, none⟩)])), recovered := true } :: older)) (by simp) (fun c₀ cs hc => .inl (recR c₀ cs hc)) (settleR ho) (finR ok err at' bs.length) (fun a hA => by have hh := read1_own W w M r q p A bs.length c at' err 0 true hb a hA hS; rw [finR_f hok]; exact hh) hA rfl (fun w' hS => .inl ⟨r, q, p, at', err, ok, M, by first | rfl | (unfold finR; simp [hok]), hS, hΦ⟩)
  · skip
    refine .inr ⟨_, rfl, ?_⟩
    refine then_panic ?_; clear hk4 k4
    change Sat W w (pto r (.cells #[.slice A bs.length c, .int .i64 at', .bool true, .int .i64 err] 100) :: pto q (.cells #[.pointer (some ⟨r, 0, none⟩)] 60) :: pto p (.cells #[.int .i64 0] 23) :: M) at hS; exact read_leaves W w M r q p at' err (.iface tx vx) (.panicking ({ v := (.iface tx vx), recovered := false } :: older)) (.panicking ({ v := (.iface tx vx), recovered := true } :: older)) (by simp) (fun c₀ cs hc => .inl (recR c₀ cs hc)) (settleR ho) (finR ok err at' bs.length) (fun a hA => by have hh := read1_other W w M r q p A bs.length c at' err 0 true tx vx htx hb a hA hS; rw [finR_f hok]; exact hh) hA rfl (fun w' hS => .inl ⟨r, q, p, at', err, ok, M, by first | rfl | (unfold finR; simp [hok]), hS, hΦ⟩)
  · skip
    refine .inr ⟨_, rfl, ?_⟩
    refine then_panic ?_; clear hk4 k4
    change Sat W w (pto r (.cells #[.slice A bs.length c, .int .i64 at', .bool true, .int .i64 err] 100) :: pto q (.cells #[.pointer (some ⟨r, 0, none⟩)] 60) :: pto p (.cells #[.int .i64 0] 23) :: pto r2 (.cells #[.slice A2 n2 c2, .int .i64 at2, .bool true, .int .i64 err2] 100) :: M) at hS; exact read_leavesP W w _ q p (GV r2) (GV r2) older (fun a hA => read1_outer W w M r q p r2 A A2 bs.length c n2 c2 at' err 0 at2 err2 true hb a hA hS) hA (fun w' hS => .inr ⟨r, q, p, at', err, A2, n2, c2, at2, err2, M, ⟨_, rfl, by simp [ho]⟩, hS, hΨ⟩)
end
end Go.Proofs.Ytmnekmclpepclaa.Wk
