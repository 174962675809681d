/- The walk of barrowlaw05.ask: what a live reader answers. Conditions: bytes of at most 2 to the 47. -/
import Derived.Test.YtmnekmclpepclaaPWire8
import Derived.Test.YtmnekmclpepclaaWkWire11
import Derived.Test.YtmnekmclpepclaaWkWire9
set_option linter.unusedVariables false
set_option linter.unusedSimpArgs false
namespace Go.Proofs.Ytmnekmclpepclaa.Wk
open Go Go.RowKit Go.Proofs.Ytmnekmclpepclaa Go.Proofs.Ytmnekmclpepclaa.K
/-- How an ask of a live reader ends. -/
def askR (W : World) (L : List As) (r : Nat) (A : Option Addr) (c : Nat) (bs : List UInt8) (at_ : Nat) (x : AskD) (e : Ending) (w' : World) : Prop :=
  ((oneA bs at_ x).2.2 = 0 ∧ e = .returned (.agg (encG (oneA bs at_ x).1).toArray) ∧ Sat W w' (rdc r A c bs ((oneA bs at_ x).2.1 : Nat) true 0 :: L)) ∨
  ((oneA bs at_ x).2.2 ≠ 0 ∧ ∃ (at' err : Int), Sat W w' (rdc r A c bs at' true err :: L) ∧ ((err = (oneA bs at_ x).2.2 ∧ Pan (.iface 102 (.agg #[.pointer (some ⟨r, 0, none⟩)])) e) ∨ (err = 0 ∧ (oneA bs at_ x).2.2 = 8 ∧ ∃ (tx : TypeId) (vx : Value), tx ≠ 102 ∧ Pan (.iface tx vx) e)))
theorem askOk {W : World} {L : List As} {r : Nat} {A : Option Addr} {c : Nat} {bs : List UInt8} {at_ : Nat} {x : AskD} {e : Ending} {w' : World} {g : GotD} {nx : Nat} (h : oneA bs at_ x = (g, nx, 0)) (he : e = .returned (.agg (encG g).toArray)) (hS : Sat W w' (rdc r A c bs (nx : Nat) true 0 :: L)) : askR W L r A c bs at_ x e w' := by
  refine .inl ?_; rw [h]; exact ⟨rfl, he, hS⟩
theorem askErr {W : World} {L : List As} {r : Nat} {A : Option Addr} {c : Nat} {bs : List UInt8} {at_ : Nat} {x : AskD} {e : Ending} {w' : World} {at' er : Int} (h : (oneA bs at_ x).2.2 = er) (h0 : er ≠ 0) (he : Pan (.iface 102 (.agg #[.pointer (some ⟨r, 0, none⟩)])) e) (hS : Sat W w' (rdc r A c bs at' true er :: L)) : askR W L r A c bs at_ x e w' :=
  .inr ⟨by rw [h]; exact h0, at', er, hS, .inl ⟨h.symm, he⟩⟩
theorem askBoom {W : World} {L : List As} {r : Nat} {A : Option Addr} {c : Nat} {bs : List UInt8} {at_ : Nat} {x : AskD} {e : Ending} {w' : World} {at' : Int} {tx : TypeId} {vx : Value} (h : (oneA bs at_ x).2.2 = 8) (ht : tx ≠ 102) (he : Pan (.iface tx vx) e) (hS : Sat W w' (rdc r A c bs at' true 0 :: L)) : askR W L r A c bs at_ x e w' :=
  .inr ⟨by rw [h]; decide, at', 0, hS, .inr ⟨rfl, h, tx, vx, ht, he⟩⟩
set_option maxRecDepth 100000 in
set_option maxHeartbeats 1000000 in
theorem ask_calls (W w : World) (L : List As) (r : Nat) (A : Option Addr) (c : Nat) (bs : List UInt8) (at_ : Nat) (x : AskD) (hS : Sat W w (rdc r A c bs at_ true 0 :: L)) (hat : at_ ≤ bs.length) (hb : bs.length ≤ 140737488355328) (hR : ∀ w, Sat W w L → Rd w 1 (.slice A bs.length c) bs.length (bs.map bcell)) (hx0 : -9223372036854775808 ≤ x.n) (hx1 : x.n ≤ 9223372036854775807) : Calls Try.prog 31 #[.pointer (some ⟨r, 0, none⟩), .agg #[.int .i64 x.k, .int .i64 x.n]] w fun e w' => askR W (L) r A c bs at_ x e w' := by
  refine enter Try.func31 rfl rfl rfl (.cons (i := 0) rfl (.cons (i := 1) rfl .nil)) ?_
  intro a hA
  change Sat W w (pto r (.cells #[.slice A bs.length c, .int .i64 (at_ : Int), .bool true, .int .i64 0] 100) :: L) at hS
  refine wp_seq_k fun k1 hk1 => ?_
  refine wp_region_lit ?_
  refine goB hA rfl rfl hS ?_
  clear hA a hS; intro b3 w hS a hA
  refine goN hA rfl T.zv66 hS ?_
  clear hA a hS; intro b4 w hS a hA
  refine wpList_nil ?_
  refine hk1 _ _ ?_
  clear hk1 k1
  replace hA := hA.keep (.cons (i := 0) rfl (.cons (i := 3) rfl (.cons (i := 4) rfl .nil)))
  refine wp_seq_k fun k2 hk2 => ?_
  refine wp_region_lit ?_
  refine go1 hA rfl rfl rfl (r_build hA rfl T.bd66_) ?_; clear hA a; intro a hA
  refine goN hA rfl T.zv66 hS ?_
  clear hA a hS; intro b5 w hS a hA
  first | refine goWS2 (vs := [_, _, _]) (cs' := [_, _, _]) hA rfl rfl T.sz66 (by simp [Value.oneCell']) hS rfl rfl ?_ | refine goWS2 (vs := [_, _, _]) (cs' := [_, _, _]) hA rfl rfl T.sz66 (by simp [Value.oneCell']) (hS.p 1) rfl rfl ?_ | refine goWS2 (vs := [_, _, _]) (cs' := [_, _, _]) hA rfl rfl T.sz66 (by simp [Value.oneCell']) (hS.p 2) rfl rfl ?_ | refine goWS2 (vs := [_, _, _]) (cs' := [_, _, _]) hA rfl rfl T.sz66 (by simp [Value.oneCell']) (hS.p 3) rfl rfl ?_ | refine goWS2 (vs := [_, _, _]) (cs' := [_, _, _]) hA rfl rfl T.sz66 (by simp [Value.oneCell']) (hS.p 4) rfl rfl ?_
  clear hS; intro w hS
  refine wpList_nil ?_
  refine hk2 _ _ ?_
  clear hk2 k2
  replace hA := hA.keep (.cons (i := 0) rfl (.cons (i := 3) rfl (.cons (i := 4) rfl (.cons (i := 5) rfl .nil))))
  refine wp_seq_k fun k3 hk3 => ?_
  refine wp_seq_k fun k4 hk4 => ?_
  refine wp_region_lit ?_
  refine go1 hA rfl rfl rfl (r_field (hA.ev rfl) T.fo69_0) ?_; clear hA a; intro a hA
  refine go1 hA rfl rfl rfl (r_load (hA.ev rfl) T.fl3 (by first | exact hS.cell rfl | exact (hS.p 1).cell rfl | exact (hS.p 2).cell rfl | exact (hS.p 3).cell rfl | exact (hS.p 4).cell rfl)) ?_; clear hA a; intro a hA
  refine wpList_nil ?_
  refine hk4 _ _ ?_
  clear hk4 k4
  replace hA := hA.keep (.cons (i := 0) rfl (.cons (i := 3) rfl (.cons (i := 4) rfl (.cons (i := 5) rfl (.cons (i := 9) rfl .nil)))))
  refine wp_block ?_
  refine wp_seq_k fun k5 hk5 => ?_
  refine wp_region_lit ?_
  refine go1s hA rfl rfl rfl (r_eql (hA.ev rfl) (hA.ev rfl)) ?_ ?_
  · clear hA a; intro h11 a hA
    try (first | contradiction | (exfalso; omega) | (exfalso; simp at h11; done))
    all_goals
     skip
     refine go1 hA rfl rfl rfl (r_assign (hA.ev rfl)) ?_; clear hA a; intro a hA
     refine wpList_nil ?_
     refine hk5 _ _ ?_
     clear hk5 k5
     replace hA := hA.keep (.cons (i := 0) rfl (.cons (i := 3) rfl (.cons (i := 4) rfl (.cons (i := 5) rfl (.cons (i := 9) rfl (.cons (i := 10) rfl .nil))))))
     refine wp_cond_true (hA.ev rfl) ?_
     refine wp_region_lit ?_
     refine go1 hA rfl rfl rfl (r_move (hA.ev rfl)) ?_; clear hA a; intro a hA
     refine go1 hA rfl rfl rfl (r_field (hA.ev rfl) T.fo69_1) ?_; clear hA a; intro a hA
     refine go1 hA rfl rfl rfl (r_load (hA.ev rfl) T.fl3 (by first | exact hS.cell rfl | exact (hS.p 1).cell rfl | exact (hS.p 2).cell rfl | exact (hS.p 3).cell rfl | exact (hS.p 4).cell rfl)) ?_; clear hA a; intro a hA
     refine goFP hA rfl T.en28 rfl (RNum_calls _ _ _ r A c bs at_ x.n (hS.p 3) hat hb (fun w h => hR w h.drop.drop.drop)) ?_
     rintro e w (⟨hu0, rfl, hS⟩ | ⟨hu0, ⟨older, rfl, ho⟩, at', hS⟩)
     · skip
       change Sat W w (pto r _ :: pto b5 _ :: pto b4 _ :: pto b3 _ :: L) at hS
       refine .inl ⟨_, rfl, ?_⟩; clear hA a; intro a hA
       refine go1 hA rfl rfl rfl (r_field (hA.ev rfl) T.fo66_0) ?_; clear hA a; intro a hA
       first | refine goW2 (cs' := [_, _, _]) hA rfl rfl T.fl3 T.sz3 rfl hS rfl rfl ?_ | refine goW2 (cs' := [_, _, _]) hA rfl rfl T.fl3 T.sz3 rfl (hS.p 1) rfl rfl ?_ | refine goW2 (cs' := [_, _, _]) hA rfl rfl T.fl3 T.sz3 rfl (hS.p 2) rfl rfl ?_ | refine goW2 (cs' := [_, _, _]) hA rfl rfl T.fl3 T.sz3 rfl (hS.p 3) rfl rfl ?_ | refine goW2 (cs' := [_, _, _]) hA rfl rfl T.fl3 T.sz3 rfl (hS.p 4) rfl rfl ?_
       clear hS; intro w hS
       refine wpList_nil ?_
       refine block_normal ?_
       refine hk3 _ _ ?_
       clear hk3 k3
       replace hA := hA.keep (.cons (i := 4) rfl (.cons (i := 5) rfl .nil))
       refine wp_seq_k fun k6 hk6 => ?_
       refine wp_region_lit ?_
       refine go1 hA rfl rfl rfl (r_loadS (cs := [_, _, _]) (hA.ev rfl) T.ag66 T.sz66 (by first | exact hS.cellsAt (xs := [_, _, _]) rfl | exact (hS.p 1).cellsAt (xs := [_, _, _]) rfl | exact (hS.p 2).cellsAt (xs := [_, _, _]) rfl | exact (hS.p 3).cellsAt (xs := [_, _, _]) rfl | exact (hS.p 4).cellsAt (xs := [_, _, _]) rfl)) ?_; clear hA a; intro a hA
       first | refine goWS2 (vs := [_, _, _]) (cs' := [_, _, _]) hA rfl rfl T.sz66 (by simp [Value.oneCell']) hS rfl rfl ?_ | refine goWS2 (vs := [_, _, _]) (cs' := [_, _, _]) hA rfl rfl T.sz66 (by simp [Value.oneCell']) (hS.p 1) rfl rfl ?_ | refine goWS2 (vs := [_, _, _]) (cs' := [_, _, _]) hA rfl rfl T.sz66 (by simp [Value.oneCell']) (hS.p 2) rfl rfl ?_ | refine goWS2 (vs := [_, _, _]) (cs' := [_, _, _]) hA rfl rfl T.sz66 (by simp [Value.oneCell']) (hS.p 3) rfl rfl ?_ | refine goWS2 (vs := [_, _, _]) (cs' := [_, _, _]) hA rfl rfl T.sz66 (by simp [Value.oneCell']) (hS.p 4) rfl rfl ?_
       clear hS; intro w hS
       refine wpList_nil ?_
       refine hk6 _ _ ?_
       clear hk6 k6
       replace hA := hA.keep (.cons (i := 4) rfl .nil)
       refine wp_ret ?_
       refine endR1 hA rfl (resS (cs := [_, _, _]) hA rfl T.ag66 T.sz66 (by first | exact hS.cellsAt (xs := [_, _, _]) rfl | exact (hS.p 1).cellsAt (xs := [_, _, _]) rfl | exact (hS.p 2).cellsAt (xs := [_, _, _]) rfl | exact (hS.p 3).cellsAt (xs := [_, _, _]) rfl | exact (hS.p 4).cellsAt (xs := [_, _, _]) rfl)) ?_
       have h1 := oneA1 h11 (bs := bs) (i := at_); rw [hu0] at h1; exact askOk h1 rfl ((((hS.p 2).p 3).p 3).p 3).drop.drop.drop
     · skip
       refine .inr ⟨_, rfl, ?_⟩
       refine block_panic ?_
       refine then_panic ?_; clear hk3 k3
       refine endP hA ?_
       exact askErr (by rw [oneA1 h11]) (by omega) ⟨older, rfl, ho⟩ (((hS.p 3).p 3).p 3).drop.drop.drop
  · clear hA a; intro h11 a hA
    try (first | contradiction | (exfalso; omega) | (exfalso; simp at h11; done))
    all_goals
     skip
     refine go1 hA rfl rfl rfl (r_assign (hA.ev rfl)) ?_; clear hA a; intro a hA
     refine wpList_nil ?_
     refine hk5 _ _ ?_
     clear hk5 k5
     replace hA := hA.keep (.cons (i := 0) rfl (.cons (i := 3) rfl (.cons (i := 4) rfl (.cons (i := 5) rfl (.cons (i := 9) rfl (.cons (i := 10) rfl .nil))))))
     refine wp_cond_false (hA.ev rfl) ?_
     refine wp_seq_k fun k7 hk7 => ?_
     refine wp_region_lit ?_
     refine go1s hA rfl rfl rfl (r_eql (hA.ev rfl) (hA.ev rfl)) ?_ ?_
     · clear hA a; intro h18 a hA
       try (first | contradiction | (exfalso; omega) | (exfalso; simp at h18; done))
       all_goals
        skip
        refine go1 hA rfl rfl rfl (r_assign (hA.ev rfl)) ?_; clear hA a; intro a hA
        refine wpList_nil ?_
        refine hk7 _ _ ?_
        clear hk7 k7
        replace hA := hA.keep (.cons (i := 0) rfl (.cons (i := 3) rfl (.cons (i := 4) rfl (.cons (i := 5) rfl (.cons (i := 9) rfl (.cons (i := 17) rfl .nil))))))
        refine wp_cond_true (hA.ev rfl) ?_
        refine wp_region_lit ?_
        refine go1 hA rfl rfl rfl (r_move (hA.ev rfl)) ?_; clear hA a; intro a hA
        refine goFP hA rfl T.en61 rfl (RFlag_calls _ _ _ r A c bs at_ (hS.p 3) hat hb (fun w h => hR w h.drop.drop.drop)) ?_
        rintro e w (⟨hu0, rfl, hS⟩ | ⟨hu0, ⟨older, rfl, ho⟩, at', hS⟩)
        · skip
          change Sat W w (pto r _ :: pto b5 _ :: pto b4 _ :: pto b3 _ :: L) at hS
          refine .inl ⟨_, rfl, ?_⟩; clear hA a; intro a hA
          refine go1 hA rfl rfl rfl (r_field (hA.ev rfl) T.fo66_1) ?_; clear hA a; intro a hA
          first | refine goW2 (cs' := [_, _, _]) hA rfl rfl T.fl4 T.sz4 rfl hS rfl rfl ?_ | refine goW2 (cs' := [_, _, _]) hA rfl rfl T.fl4 T.sz4 rfl (hS.p 1) rfl rfl ?_ | refine goW2 (cs' := [_, _, _]) hA rfl rfl T.fl4 T.sz4 rfl (hS.p 2) rfl rfl ?_ | refine goW2 (cs' := [_, _, _]) hA rfl rfl T.fl4 T.sz4 rfl (hS.p 3) rfl rfl ?_ | refine goW2 (cs' := [_, _, _]) hA rfl rfl T.fl4 T.sz4 rfl (hS.p 4) rfl rfl ?_
          clear hS; intro w hS
          refine wpList_nil ?_
          refine block_normal ?_
          refine hk3 _ _ ?_
          clear hk3 k3
          replace hA := hA.keep (.cons (i := 4) rfl (.cons (i := 5) rfl .nil))
          refine wp_seq_k fun k8 hk8 => ?_
          refine wp_region_lit ?_
          refine go1 hA rfl rfl rfl (r_loadS (cs := [_, _, _]) (hA.ev rfl) T.ag66 T.sz66 (by first | exact hS.cellsAt (xs := [_, _, _]) rfl | exact (hS.p 1).cellsAt (xs := [_, _, _]) rfl | exact (hS.p 2).cellsAt (xs := [_, _, _]) rfl | exact (hS.p 3).cellsAt (xs := [_, _, _]) rfl | exact (hS.p 4).cellsAt (xs := [_, _, _]) rfl)) ?_; clear hA a; intro a hA
          first | refine goWS2 (vs := [_, _, _]) (cs' := [_, _, _]) hA rfl rfl T.sz66 (by simp [Value.oneCell']) hS rfl rfl ?_ | refine goWS2 (vs := [_, _, _]) (cs' := [_, _, _]) hA rfl rfl T.sz66 (by simp [Value.oneCell']) (hS.p 1) rfl rfl ?_ | refine goWS2 (vs := [_, _, _]) (cs' := [_, _, _]) hA rfl rfl T.sz66 (by simp [Value.oneCell']) (hS.p 2) rfl rfl ?_ | refine goWS2 (vs := [_, _, _]) (cs' := [_, _, _]) hA rfl rfl T.sz66 (by simp [Value.oneCell']) (hS.p 3) rfl rfl ?_ | refine goWS2 (vs := [_, _, _]) (cs' := [_, _, _]) hA rfl rfl T.sz66 (by simp [Value.oneCell']) (hS.p 4) rfl rfl ?_
          clear hS; intro w hS
          refine wpList_nil ?_
          refine hk8 _ _ ?_
          clear hk8 k8
          replace hA := hA.keep (.cons (i := 4) rfl .nil)
          refine wp_ret ?_
          refine endR1 hA rfl (resS (cs := [_, _, _]) hA rfl T.ag66 T.sz66 (by first | exact hS.cellsAt (xs := [_, _, _]) rfl | exact (hS.p 1).cellsAt (xs := [_, _, _]) rfl | exact (hS.p 2).cellsAt (xs := [_, _, _]) rfl | exact (hS.p 3).cellsAt (xs := [_, _, _]) rfl | exact (hS.p 4).cellsAt (xs := [_, _, _]) rfl)) ?_
          have h1 := oneA2 h18 (bs := bs) (i := at_); rw [hu0] at h1; exact askOk h1 rfl ((((hS.p 2).p 3).p 3).p 3).drop.drop.drop
        · skip
          refine .inr ⟨_, rfl, ?_⟩
          refine block_panic ?_
          refine then_panic ?_; clear hk3 k3
          refine endP hA ?_
          exact askErr (by rw [oneA2 h18]) (by omega) ⟨older, rfl, ho⟩ (((hS.p 3).p 3).p 3).drop.drop.drop
     · clear hA a; intro h18 a hA
       try (first | contradiction | (exfalso; omega) | (exfalso; simp at h18; done))
       all_goals
        skip
        refine go1 hA rfl rfl rfl (r_assign (hA.ev rfl)) ?_; clear hA a; intro a hA
        refine wpList_nil ?_
        refine hk7 _ _ ?_
        clear hk7 k7
        replace hA := hA.keep (.cons (i := 0) rfl (.cons (i := 3) rfl (.cons (i := 4) rfl (.cons (i := 5) rfl (.cons (i := 9) rfl (.cons (i := 17) rfl .nil))))))
        refine wp_cond_false (hA.ev rfl) ?_
        refine wp_seq_k fun k9 hk9 => ?_
        refine wp_region_lit ?_
        refine go1s hA rfl rfl rfl (r_eql (hA.ev rfl) (hA.ev rfl)) ?_ ?_
        · clear hA a; intro h23 a hA
          try (first | contradiction | (exfalso; omega) | (exfalso; simp at h23; done))
          all_goals
           skip
           refine go1 hA rfl rfl rfl (r_assign (hA.ev rfl)) ?_; clear hA a; intro a hA
           refine wpList_nil ?_
           refine hk9 _ _ ?_
           clear hk9 k9
           replace hA := hA.keep (.cons (i := 0) rfl (.cons (i := 3) rfl (.cons (i := 4) rfl (.cons (i := 5) rfl (.cons (i := 9) rfl (.cons (i := 22) rfl .nil))))))
           refine wp_cond_true (hA.ev rfl) ?_
           refine wp_region_lit ?_
           refine go1 hA rfl rfl rfl (r_move (hA.ev rfl)) ?_; clear hA a; intro a hA
           refine go1 hA rfl rfl rfl (r_field (hA.ev rfl) T.fo69_1) ?_; clear hA a; intro a hA
           refine go1 hA rfl rfl rfl (r_load (hA.ev rfl) T.fl3 (by first | exact hS.cell rfl | exact (hS.p 1).cell rfl | exact (hS.p 2).cell rfl | exact (hS.p 3).cell rfl | exact (hS.p 4).cell rfl)) ?_; clear hA a; intro a hA
           refine goFP hA rfl T.en62 rfl (RCount_calls _ _ _ r A c bs at_ x.n (hS.p 3) hat hb (fun w h => hR w h.drop.drop.drop) (by omega)) ?_
           rintro e w (⟨hu0, rfl, hS⟩ | ⟨hu0, ⟨older, rfl, ho⟩, at', hS⟩)
           · skip
             change Sat W w (pto r _ :: pto b5 _ :: pto b4 _ :: pto b3 _ :: L) at hS
             refine .inl ⟨_, rfl, ?_⟩; clear hA a; intro a hA
             refine go1 hA rfl rfl rfl (r_field (hA.ev rfl) T.fo66_0) ?_; clear hA a; intro a hA
             first | refine goW2 (cs' := [_, _, _]) hA rfl rfl T.fl3 T.sz3 rfl hS rfl rfl ?_ | refine goW2 (cs' := [_, _, _]) hA rfl rfl T.fl3 T.sz3 rfl (hS.p 1) rfl rfl ?_ | refine goW2 (cs' := [_, _, _]) hA rfl rfl T.fl3 T.sz3 rfl (hS.p 2) rfl rfl ?_ | refine goW2 (cs' := [_, _, _]) hA rfl rfl T.fl3 T.sz3 rfl (hS.p 3) rfl rfl ?_ | refine goW2 (cs' := [_, _, _]) hA rfl rfl T.fl3 T.sz3 rfl (hS.p 4) rfl rfl ?_
             clear hS; intro w hS
             refine wpList_nil ?_
             refine block_normal ?_
             refine hk3 _ _ ?_
             clear hk3 k3
             replace hA := hA.keep (.cons (i := 4) rfl (.cons (i := 5) rfl .nil))
             refine wp_seq_k fun k10 hk10 => ?_
             refine wp_region_lit ?_
             refine go1 hA rfl rfl rfl (r_loadS (cs := [_, _, _]) (hA.ev rfl) T.ag66 T.sz66 (by first | exact hS.cellsAt (xs := [_, _, _]) rfl | exact (hS.p 1).cellsAt (xs := [_, _, _]) rfl | exact (hS.p 2).cellsAt (xs := [_, _, _]) rfl | exact (hS.p 3).cellsAt (xs := [_, _, _]) rfl | exact (hS.p 4).cellsAt (xs := [_, _, _]) rfl)) ?_; clear hA a; intro a hA
             first | refine goWS2 (vs := [_, _, _]) (cs' := [_, _, _]) hA rfl rfl T.sz66 (by simp [Value.oneCell']) hS rfl rfl ?_ | refine goWS2 (vs := [_, _, _]) (cs' := [_, _, _]) hA rfl rfl T.sz66 (by simp [Value.oneCell']) (hS.p 1) rfl rfl ?_ | refine goWS2 (vs := [_, _, _]) (cs' := [_, _, _]) hA rfl rfl T.sz66 (by simp [Value.oneCell']) (hS.p 2) rfl rfl ?_ | refine goWS2 (vs := [_, _, _]) (cs' := [_, _, _]) hA rfl rfl T.sz66 (by simp [Value.oneCell']) (hS.p 3) rfl rfl ?_ | refine goWS2 (vs := [_, _, _]) (cs' := [_, _, _]) hA rfl rfl T.sz66 (by simp [Value.oneCell']) (hS.p 4) rfl rfl ?_
             clear hS; intro w hS
             refine wpList_nil ?_
             refine hk10 _ _ ?_
             clear hk10 k10
             replace hA := hA.keep (.cons (i := 4) rfl .nil)
             refine wp_ret ?_
             refine endR1 hA rfl (resS (cs := [_, _, _]) hA rfl T.ag66 T.sz66 (by first | exact hS.cellsAt (xs := [_, _, _]) rfl | exact (hS.p 1).cellsAt (xs := [_, _, _]) rfl | exact (hS.p 2).cellsAt (xs := [_, _, _]) rfl | exact (hS.p 3).cellsAt (xs := [_, _, _]) rfl | exact (hS.p 4).cellsAt (xs := [_, _, _]) rfl)) ?_
             have h1 := oneA5 h23 (bs := bs) (i := at_); rw [hu0] at h1; exact askOk h1 rfl ((((hS.p 2).p 3).p 3).p 3).drop.drop.drop
           · skip
             refine .inr ⟨_, rfl, ?_⟩
             refine block_panic ?_
             refine then_panic ?_; clear hk3 k3
             refine endP hA ?_
             exact askErr (by rw [oneA5 h23]) (by omega) ⟨older, rfl, ho⟩ (((hS.p 3).p 3).p 3).drop.drop.drop
        · clear hA a; intro h23 a hA
          try (first | contradiction | (exfalso; omega) | (exfalso; simp at h23; done))
          all_goals
           skip
           refine go1 hA rfl rfl rfl (r_assign (hA.ev rfl)) ?_; clear hA a; intro a hA
           refine wpList_nil ?_
           refine hk9 _ _ ?_
           clear hk9 k9
           replace hA := hA.keep (.cons (i := 0) rfl (.cons (i := 3) rfl (.cons (i := 4) rfl (.cons (i := 5) rfl (.cons (i := 9) rfl (.cons (i := 22) rfl .nil))))))
           refine wp_cond_false (hA.ev rfl) ?_
           refine wp_seq_k fun k11 hk11 => ?_
           refine wp_region_lit ?_
           refine go1s hA rfl rfl rfl (r_eql (hA.ev rfl) (hA.ev rfl)) ?_ ?_
           · clear hA a; intro h30 a hA
             try (first | contradiction | (exfalso; omega) | (exfalso; simp at h30; done))
             all_goals
              skip
              refine go1 hA rfl rfl rfl (r_assign (hA.ev rfl)) ?_; clear hA a; intro a hA
              refine wpList_nil ?_
              refine hk11 _ _ ?_
              clear hk11 k11
              replace hA := hA.keep (.cons (i := 0) rfl (.cons (i := 3) rfl (.cons (i := 4) rfl (.cons (i := 5) rfl (.cons (i := 9) rfl (.cons (i := 29) rfl .nil))))))
              refine wp_cond_true (hA.ev rfl) ?_
              refine wp_region_lit ?_
              refine go1 hA rfl rfl rfl (r_move (hA.ev rfl)) ?_; clear hA a; intro a hA
              refine go1 hA rfl rfl rfl (r_field (hA.ev rfl) T.fo69_1) ?_; clear hA a; intro a hA
              refine go1 hA rfl rfl rfl (r_load (hA.ev rfl) T.fl3 (by first | exact hS.cell rfl | exact (hS.p 1).cell rfl | exact (hS.p 2).cell rfl | exact (hS.p 3).cell rfl | exact (hS.p 4).cell rfl)) ?_; clear hA a; intro a hA
              refine goFP hA rfl T.en63 rfl (RText_calls _ _ _ r A c bs at_ x.n (hS.p 3) hat hb (fun w h => hR w h.drop.drop.drop)) ?_
              rintro e w (⟨hu0, rfl, hS⟩ | ⟨hu0, ⟨older, rfl, ho⟩, at', hS⟩)
              · skip
                change Sat W w (pto r _ :: pto b5 _ :: pto b4 _ :: pto b3 _ :: L) at hS
                refine .inl ⟨_, rfl, ?_⟩; clear hA a; intro a hA
                refine go1 hA rfl rfl rfl (r_field (hA.ev rfl) T.fo66_2) ?_; clear hA a; intro a hA
                first | refine goW2 (cs' := [_, _, _]) hA rfl rfl T.fl9 T.sz9 rfl hS rfl rfl ?_ | refine goW2 (cs' := [_, _, _]) hA rfl rfl T.fl9 T.sz9 rfl (hS.p 1) rfl rfl ?_ | refine goW2 (cs' := [_, _, _]) hA rfl rfl T.fl9 T.sz9 rfl (hS.p 2) rfl rfl ?_ | refine goW2 (cs' := [_, _, _]) hA rfl rfl T.fl9 T.sz9 rfl (hS.p 3) rfl rfl ?_ | refine goW2 (cs' := [_, _, _]) hA rfl rfl T.fl9 T.sz9 rfl (hS.p 4) rfl rfl ?_
                clear hS; intro w hS
                refine wpList_nil ?_
                refine block_normal ?_
                refine hk3 _ _ ?_
                clear hk3 k3
                replace hA := hA.keep (.cons (i := 4) rfl (.cons (i := 5) rfl .nil))
                refine wp_seq_k fun k12 hk12 => ?_
                refine wp_region_lit ?_
                refine go1 hA rfl rfl rfl (r_loadS (cs := [_, _, _]) (hA.ev rfl) T.ag66 T.sz66 (by first | exact hS.cellsAt (xs := [_, _, _]) rfl | exact (hS.p 1).cellsAt (xs := [_, _, _]) rfl | exact (hS.p 2).cellsAt (xs := [_, _, _]) rfl | exact (hS.p 3).cellsAt (xs := [_, _, _]) rfl | exact (hS.p 4).cellsAt (xs := [_, _, _]) rfl)) ?_; clear hA a; intro a hA
                first | refine goWS2 (vs := [_, _, _]) (cs' := [_, _, _]) hA rfl rfl T.sz66 (by simp [Value.oneCell']) hS rfl rfl ?_ | refine goWS2 (vs := [_, _, _]) (cs' := [_, _, _]) hA rfl rfl T.sz66 (by simp [Value.oneCell']) (hS.p 1) rfl rfl ?_ | refine goWS2 (vs := [_, _, _]) (cs' := [_, _, _]) hA rfl rfl T.sz66 (by simp [Value.oneCell']) (hS.p 2) rfl rfl ?_ | refine goWS2 (vs := [_, _, _]) (cs' := [_, _, _]) hA rfl rfl T.sz66 (by simp [Value.oneCell']) (hS.p 3) rfl rfl ?_ | refine goWS2 (vs := [_, _, _]) (cs' := [_, _, _]) hA rfl rfl T.sz66 (by simp [Value.oneCell']) (hS.p 4) rfl rfl ?_
                clear hS; intro w hS
                refine wpList_nil ?_
                refine hk12 _ _ ?_
                clear hk12 k12
                replace hA := hA.keep (.cons (i := 4) rfl .nil)
                refine wp_ret ?_
                refine endR1 hA rfl (resS (cs := [_, _, _]) hA rfl T.ag66 T.sz66 (by first | exact hS.cellsAt (xs := [_, _, _]) rfl | exact (hS.p 1).cellsAt (xs := [_, _, _]) rfl | exact (hS.p 2).cellsAt (xs := [_, _, _]) rfl | exact (hS.p 3).cellsAt (xs := [_, _, _]) rfl | exact (hS.p 4).cellsAt (xs := [_, _, _]) rfl)) ?_
                have h1 := oneA34 (.inl h30) (bs := bs) (i := at_); rw [hu0] at h1; exact askOk h1 rfl ((((hS.p 2).p 3).p 3).p 3).drop.drop.drop
              · skip
                refine .inr ⟨_, rfl, ?_⟩
                refine block_panic ?_
                refine then_panic ?_; clear hk3 k3
                refine endP hA ?_
                exact askErr (by rw [oneA34 (.inl h30)]) (by omega) ⟨older, rfl, ho⟩ (((hS.p 3).p 3).p 3).drop.drop.drop
           · clear hA a; intro h30 a hA
             try (first | contradiction | (exfalso; omega) | (exfalso; simp at h30; done))
             all_goals
              skip
              refine go1 hA rfl rfl rfl (r_assign (hA.ev rfl)) ?_; clear hA a; intro a hA
              refine wpList_nil ?_
              refine hk11 _ _ ?_
              clear hk11 k11
              replace hA := hA.keep (.cons (i := 0) rfl (.cons (i := 3) rfl (.cons (i := 4) rfl (.cons (i := 5) rfl (.cons (i := 9) rfl (.cons (i := 29) rfl .nil))))))
              refine wp_cond_false (hA.ev rfl) ?_
              refine wp_seq_k fun k13 hk13 => ?_
              refine wp_region_lit ?_
              refine go1s hA rfl rfl rfl (r_eql (hA.ev rfl) (hA.ev rfl)) ?_ ?_
              · clear hA a; intro h37 a hA
                try (first | contradiction | (exfalso; omega) | (exfalso; simp at h37; done))
                all_goals
                 skip
                 refine go1 hA rfl rfl rfl (r_assign (hA.ev rfl)) ?_; clear hA a; intro a hA
                 refine wpList_nil ?_
                 refine hk13 _ _ ?_
                 clear hk13 k13
                 replace hA := hA.keep (.cons (i := 0) rfl (.cons (i := 3) rfl (.cons (i := 4) rfl (.cons (i := 5) rfl (.cons (i := 9) rfl (.cons (i := 36) rfl .nil))))))
                 refine wp_cond_true (hA.ev rfl) ?_
                 refine wp_region_lit ?_
                 refine go1 hA rfl rfl rfl (r_move (hA.ev rfl)) ?_; clear hA a; intro a hA
                 refine go1 hA rfl rfl rfl (r_field (hA.ev rfl) T.fo69_1) ?_; clear hA a; intro a hA
                 refine go1 hA rfl rfl rfl (r_load (hA.ev rfl) T.fl3 (by first | exact hS.cell rfl | exact (hS.p 1).cell rfl | exact (hS.p 2).cell rfl | exact (hS.p 3).cell rfl | exact (hS.p 4).cell rfl)) ?_; clear hA a; intro a hA
                 refine goFP hA rfl T.en42 rfl (RFrame_calls _ _ _ r A c bs at_ x.n (hS.p 3) hat hb (fun w h => hR w h.drop.drop.drop)) ?_
                 rintro e w (⟨hu0, A', c', rfl, hS⟩ | ⟨hu0, ⟨older, rfl, ho⟩, at', hS⟩)
                 · skip
                   change Sat W w (pto r _ :: _ :: pto b5 _ :: pto b4 _ :: pto b3 _ :: L) at hS
                   refine .inl ⟨_, rfl, ?_⟩; clear hA a; intro a hA
                   refine go1 hA rfl rfl rfl (r_b2s (hA.ev rfl) T.un22 T.un5 T.un9 (hS.p 1).rd) ?_; clear hA a; intro a hA
                   refine go1 hA rfl rfl rfl (r_field (hA.ev rfl) T.fo66_2) ?_; clear hA a; intro a hA
                   first | refine goW2 (cs' := [_, _, _]) hA rfl rfl T.fl9 T.sz9 rfl hS rfl rfl ?_ | refine goW2 (cs' := [_, _, _]) hA rfl rfl T.fl9 T.sz9 rfl (hS.p 1) rfl rfl ?_ | refine goW2 (cs' := [_, _, _]) hA rfl rfl T.fl9 T.sz9 rfl (hS.p 2) rfl rfl ?_ | refine goW2 (cs' := [_, _, _]) hA rfl rfl T.fl9 T.sz9 rfl (hS.p 3) rfl rfl ?_ | refine goW2 (cs' := [_, _, _]) hA rfl rfl T.fl9 T.sz9 rfl (hS.p 4) rfl rfl ?_
                   clear hS; intro w hS
                   refine wpList_nil ?_
                   refine block_normal ?_
                   refine hk3 _ _ ?_
                   clear hk3 k3
                   replace hA := hA.keep (.cons (i := 4) rfl (.cons (i := 5) rfl .nil))
                   refine wp_seq_k fun k14 hk14 => ?_
                   refine wp_region_lit ?_
                   refine go1 hA rfl rfl rfl (r_loadS (cs := [_, _, _]) (hA.ev rfl) T.ag66 T.sz66 (by first | exact hS.cellsAt (xs := [_, _, _]) rfl | exact (hS.p 1).cellsAt (xs := [_, _, _]) rfl | exact (hS.p 2).cellsAt (xs := [_, _, _]) rfl | exact (hS.p 3).cellsAt (xs := [_, _, _]) rfl | exact (hS.p 4).cellsAt (xs := [_, _, _]) rfl)) ?_; clear hA a; intro a hA
                   first | refine goWS2 (vs := [_, _, _]) (cs' := [_, _, _]) hA rfl rfl T.sz66 (by simp [Value.oneCell']) hS rfl rfl ?_ | refine goWS2 (vs := [_, _, _]) (cs' := [_, _, _]) hA rfl rfl T.sz66 (by simp [Value.oneCell']) (hS.p 1) rfl rfl ?_ | refine goWS2 (vs := [_, _, _]) (cs' := [_, _, _]) hA rfl rfl T.sz66 (by simp [Value.oneCell']) (hS.p 2) rfl rfl ?_ | refine goWS2 (vs := [_, _, _]) (cs' := [_, _, _]) hA rfl rfl T.sz66 (by simp [Value.oneCell']) (hS.p 3) rfl rfl ?_ | refine goWS2 (vs := [_, _, _]) (cs' := [_, _, _]) hA rfl rfl T.sz66 (by simp [Value.oneCell']) (hS.p 4) rfl rfl ?_
                   clear hS; intro w hS
                   refine wpList_nil ?_
                   refine hk14 _ _ ?_
                   clear hk14 k14
                   replace hA := hA.keep (.cons (i := 4) rfl .nil)
                   refine wp_ret ?_
                   refine endR1 hA rfl (resS (cs := [_, _, _]) hA rfl T.ag66 T.sz66 (by first | exact hS.cellsAt (xs := [_, _, _]) rfl | exact (hS.p 1).cellsAt (xs := [_, _, _]) rfl | exact (hS.p 2).cellsAt (xs := [_, _, _]) rfl | exact (hS.p 3).cellsAt (xs := [_, _, _]) rfl | exact (hS.p 4).cellsAt (xs := [_, _, _]) rfl)) ?_
                   have h1 := oneA34 (.inr h37) (bs := bs) (i := at_); rw [hu0] at h1; exact askOk h1 rfl (((((hS.p 2).p 4).p 4).p 4).p 4).drop.drop.drop.drop
                 · skip
                   refine .inr ⟨_, rfl, ?_⟩
                   refine block_panic ?_
                   refine then_panic ?_; clear hk3 k3
                   refine endP hA ?_
                   exact askErr (by rw [oneA34 (.inr h37)]) (by omega) ⟨older, rfl, ho⟩ (((hS.p 3).p 3).p 3).drop.drop.drop
              · clear hA a; intro h37 a hA
                try (first | contradiction | (exfalso; omega) | (exfalso; simp at h37; done))
                all_goals
                 skip
                 refine go1 hA rfl rfl rfl (r_assign (hA.ev rfl)) ?_; clear hA a; intro a hA
                 refine wpList_nil ?_
                 refine hk13 _ _ ?_
                 clear hk13 k13
                 replace hA := hA.keep (.cons (i := 0) rfl (.cons (i := 3) rfl (.cons (i := 4) rfl (.cons (i := 5) rfl (.cons (i := 9) rfl (.cons (i := 36) rfl .nil))))))
                 refine wp_cond_false (hA.ev rfl) ?_
                 refine wp_seq_k fun k15 hk15 => ?_
                 refine wp_region_lit ?_
                 refine go1s hA rfl rfl rfl (r_eql (hA.ev rfl) (hA.ev rfl)) ?_ ?_
                 · clear hA a; intro h45 a hA
                   try (first | contradiction | (exfalso; omega) | (exfalso; simp at h45; done))
                   all_goals
                    skip
                    refine go1 hA rfl rfl rfl (r_assign (hA.ev rfl)) ?_; clear hA a; intro a hA
                    refine wpList_nil ?_
                    refine hk15 _ _ ?_
                    clear hk15 k15
                    replace hA := hA.keep (.cons (i := 0) rfl (.cons (i := 3) rfl (.cons (i := 4) rfl (.cons (i := 5) rfl (.cons (i := 9) rfl (.cons (i := 44) rfl .nil))))))
                    refine wp_cond_true (hA.ev rfl) ?_
                    refine wp_region_lit ?_
                    refine go1 hA rfl rfl rfl (r_move (hA.ev rfl)) ?_; clear hA a; intro a hA
                    refine goF hA rfl T.en64 rfl (RLeft_calls _ _ _ r A c bs at_ (hS.p 3) hat hb (fun w h => hR w h.drop.drop.drop)) ?_
                    clear hA a; clear hS; rintro e w ⟨rfl, hS⟩; change Sat W w (pto r _ :: pto b5 _ :: pto b4 _ :: pto b3 _ :: L) at hS
                    refine ⟨_, rfl, ?_⟩; intro a hA
                    refine go1 hA rfl rfl rfl (r_field (hA.ev rfl) T.fo66_0) ?_; clear hA a; intro a hA
                    first | refine goW2 (cs' := [_, _, _]) hA rfl rfl T.fl3 T.sz3 rfl hS rfl rfl ?_ | refine goW2 (cs' := [_, _, _]) hA rfl rfl T.fl3 T.sz3 rfl (hS.p 1) rfl rfl ?_ | refine goW2 (cs' := [_, _, _]) hA rfl rfl T.fl3 T.sz3 rfl (hS.p 2) rfl rfl ?_ | refine goW2 (cs' := [_, _, _]) hA rfl rfl T.fl3 T.sz3 rfl (hS.p 3) rfl rfl ?_ | refine goW2 (cs' := [_, _, _]) hA rfl rfl T.fl3 T.sz3 rfl (hS.p 4) rfl rfl ?_
                    clear hS; intro w hS
                    refine wpList_nil ?_
                    refine block_normal ?_
                    refine hk3 _ _ ?_
                    clear hk3 k3
                    replace hA := hA.keep (.cons (i := 4) rfl (.cons (i := 5) rfl .nil))
                    refine wp_seq_k fun k16 hk16 => ?_
                    refine wp_region_lit ?_
                    refine go1 hA rfl rfl rfl (r_loadS (cs := [_, _, _]) (hA.ev rfl) T.ag66 T.sz66 (by first | exact hS.cellsAt (xs := [_, _, _]) rfl | exact (hS.p 1).cellsAt (xs := [_, _, _]) rfl | exact (hS.p 2).cellsAt (xs := [_, _, _]) rfl | exact (hS.p 3).cellsAt (xs := [_, _, _]) rfl | exact (hS.p 4).cellsAt (xs := [_, _, _]) rfl)) ?_; clear hA a; intro a hA
                    first | refine goWS2 (vs := [_, _, _]) (cs' := [_, _, _]) hA rfl rfl T.sz66 (by simp [Value.oneCell']) hS rfl rfl ?_ | refine goWS2 (vs := [_, _, _]) (cs' := [_, _, _]) hA rfl rfl T.sz66 (by simp [Value.oneCell']) (hS.p 1) rfl rfl ?_ | refine goWS2 (vs := [_, _, _]) (cs' := [_, _, _]) hA rfl rfl T.sz66 (by simp [Value.oneCell']) (hS.p 2) rfl rfl ?_ | refine goWS2 (vs := [_, _, _]) (cs' := [_, _, _]) hA rfl rfl T.sz66 (by simp [Value.oneCell']) (hS.p 3) rfl rfl ?_ | refine goWS2 (vs := [_, _, _]) (cs' := [_, _, _]) hA rfl rfl T.sz66 (by simp [Value.oneCell']) (hS.p 4) rfl rfl ?_
                    clear hS; intro w hS
                    refine wpList_nil ?_
                    refine hk16 _ _ ?_
                    clear hk16 k16
                    replace hA := hA.keep (.cons (i := 4) rfl .nil)
                    refine wp_ret ?_
                    refine endR1 hA rfl (resS (cs := [_, _, _]) hA rfl T.ag66 T.sz66 (by first | exact hS.cellsAt (xs := [_, _, _]) rfl | exact (hS.p 1).cellsAt (xs := [_, _, _]) rfl | exact (hS.p 2).cellsAt (xs := [_, _, _]) rfl | exact (hS.p 3).cellsAt (xs := [_, _, _]) rfl | exact (hS.p 4).cellsAt (xs := [_, _, _]) rfl)) ?_
                    exact askOk (oneA6 h45) rfl ((((hS.p 2).p 3).p 3).p 3).drop.drop.drop
                 · clear hA a; intro h45 a hA
                   try (first | contradiction | (exfalso; omega) | (exfalso; simp at h45; done))
                   all_goals
                    skip
                    refine go1 hA rfl rfl rfl (r_assign (hA.ev rfl)) ?_; clear hA a; intro a hA
                    refine wpList_nil ?_
                    refine hk15 _ _ ?_
                    clear hk15 k15
                    replace hA := hA.keep (.cons (i := 0) rfl (.cons (i := 3) rfl (.cons (i := 4) rfl (.cons (i := 5) rfl (.cons (i := 9) rfl (.cons (i := 44) rfl .nil))))))
                    refine wp_cond_false (hA.ev rfl) ?_
                    refine wp_seq_k fun k17 hk17 => ?_
                    refine wp_region_lit ?_
                    refine go1s hA rfl rfl rfl (r_eql (hA.ev rfl) (hA.ev rfl)) ?_ ?_
                    · clear hA a; intro h50 a hA
                      try (first | contradiction | (exfalso; omega) | (exfalso; simp at h50; done))
                      all_goals
                       skip
                       refine go1 hA rfl rfl rfl (r_assign (hA.ev rfl)) ?_; clear hA a; intro a hA
                       refine wpList_nil ?_
                       refine hk17 _ _ ?_
                       clear hk17 k17
                       replace hA := hA.keep (.cons (i := 0) rfl (.cons (i := 3) rfl (.cons (i := 4) rfl (.cons (i := 5) rfl (.cons (i := 9) rfl (.cons (i := 49) rfl .nil))))))
                       refine wp_cond_true (hA.ev rfl) ?_
                       refine wp_region_lit ?_
                       refine go1 hA rfl rfl rfl (r_move (hA.ev rfl)) ?_; clear hA a; intro a hA
                       refine go1 hA rfl rfl rfl (r_field (hA.ev rfl) T.fo69_1) ?_; clear hA a; intro a hA
                       refine go1 hA rfl rfl rfl (r_load (hA.ev rfl) T.fl3 (by first | exact hS.cell rfl | exact (hS.p 1).cell rfl | exact (hS.p 2).cell rfl | exact (hS.p 3).cell rfl | exact (hS.p 4).cell rfl)) ?_; clear hA a; intro a hA
                       refine goFP hA rfl T.en65 rfl (RFail_calls _ _ _ r A c bs at_ x.n (hS.p 3) hat hb (fun w h => hR w h.drop.drop.drop)) ?_
                       rintro e w ⟨⟨older, rfl, ho⟩, at', hS⟩
                       · skip
                         refine .inr ⟨_, rfl, ?_⟩
                         refine block_panic ?_
                         refine then_panic ?_; clear hk3 k3
                         refine endP hA ?_
                         exact askErr (by rw [oneA7 h50]) (by split <;> omega) ⟨older, rfl, ho⟩ (((hS.p 3).p 3).p 3).drop.drop.drop
                    · clear hA a; intro h50 a hA
                      try (first | contradiction | (exfalso; omega) | (exfalso; simp at h50; done))
                      all_goals
                       skip
                       refine go1 hA rfl rfl rfl (r_assign (hA.ev rfl)) ?_; clear hA a; intro a hA
                       refine wpList_nil ?_
                       refine hk17 _ _ ?_
                       clear hk17 k17
                       replace hA := hA.keep (.cons (i := 0) rfl (.cons (i := 3) rfl (.cons (i := 4) rfl (.cons (i := 5) rfl (.cons (i := 9) rfl (.cons (i := 49) rfl .nil))))))
                       refine wp_cond_false (hA.ev rfl) ?_
                       refine wp_seq_k fun k18 hk18 => ?_
                       refine wp_region_lit ?_
                       refine go1s hA rfl rfl rfl (r_eql (hA.ev rfl) (hA.ev rfl)) ?_ ?_
                       · clear hA a; intro h56 a hA
                         try (first | contradiction | (exfalso; omega) | (exfalso; simp at h56; done))
                         all_goals
                          skip
                          refine go1 hA rfl rfl rfl (r_assign (hA.ev rfl)) ?_; clear hA a; intro a hA
                          refine wpList_nil ?_
                          refine hk18 _ _ ?_
                          clear hk18 k18
                          replace hA := hA.keep (.cons (i := 3) rfl (.cons (i := 4) rfl (.cons (i := 5) rfl (.cons (i := 55) rfl .nil))))
                          refine wp_cond_true (hA.ev rfl) ?_
                          refine wp_seq_k fun k19 hk19 => ?_
                          refine wp_region_lit ?_
                          refine go1 hA rfl rfl rfl (r_assign (hA.ev rfl)) ?_; clear hA a; intro a hA
                          refine wpList_nil ?_
                          refine hk19 _ _ ?_
                          clear hk19 k19
                          replace hA := hA.keep (.cons (i := 3) rfl (.cons (i := 4) rfl (.cons (i := 5) rfl (.cons (i := 6) rfl .nil))))
                          refine wp_region_lit ?_
                          refine go1 hA rfl rfl rfl (r_move (hA.ev rfl)) ?_; clear hA a; intro a hA
                          refine go1 hA rfl rfl rfl (r_field (hA.ev rfl) T.fo69_1) ?_; clear hA a; intro a hA
                          refine go1 hA rfl rfl rfl (r_load (hA.ev rfl) T.fl3 (by first | exact hS.cell rfl | exact (hS.p 1).cell rfl | exact (hS.p 2).cell rfl | exact (hS.p 3).cell rfl | exact (hS.p 4).cell rfl)) ?_; clear hA a; intro a hA
                          refine go1 hA rfl rfl rfl (r_and (hA.ev rfl) (hA.ev rfl)) ?_; clear hA a; intro a hA
                          refine goIdxNil hA rfl rfl T.un108 hS (fun v w hS => ?_)
                          refine block_panic ?_
                          refine then_panic ?_; clear hk3 k3
                          refine endP hA ?_
                          exact askBoom (by rw [oneA8 h56]) (by decide) (Pan.one _) ((((hS.p 3).p 3).p 3).p 3).drop.drop.drop
                       · clear hA a; intro h56 a hA
                         try (first | contradiction | (exfalso; omega) | (exfalso; simp at h56; done))
                         all_goals
                          skip
                          refine go1 hA rfl rfl rfl (r_assign (hA.ev rfl)) ?_; clear hA a; intro a hA
                          refine wpList_nil ?_
                          refine hk18 _ _ ?_
                          clear hk18 k18
                          replace hA := hA.keep (.cons (i := 3) rfl (.cons (i := 4) rfl (.cons (i := 5) rfl (.cons (i := 55) rfl .nil))))
                          refine wp_cond_false (hA.ev rfl) ?_
                          refine wp_skip ?_
                          refine block_normal ?_
                          refine hk3 _ _ ?_
                          clear hk3 k3
                          replace hA := hA.keep (.cons (i := 4) rfl (.cons (i := 5) rfl .nil))
                          refine wp_seq_k fun k20 hk20 => ?_
                          refine wp_region_lit ?_
                          refine go1 hA rfl rfl rfl (r_loadS (cs := [_, _, _]) (hA.ev rfl) T.ag66 T.sz66 (by first | exact hS.cellsAt (xs := [_, _, _]) rfl | exact (hS.p 1).cellsAt (xs := [_, _, _]) rfl | exact (hS.p 2).cellsAt (xs := [_, _, _]) rfl | exact (hS.p 3).cellsAt (xs := [_, _, _]) rfl | exact (hS.p 4).cellsAt (xs := [_, _, _]) rfl)) ?_; clear hA a; intro a hA
                          first | refine goWS2 (vs := [_, _, _]) (cs' := [_, _, _]) hA rfl rfl T.sz66 (by simp [Value.oneCell']) hS rfl rfl ?_ | refine goWS2 (vs := [_, _, _]) (cs' := [_, _, _]) hA rfl rfl T.sz66 (by simp [Value.oneCell']) (hS.p 1) rfl rfl ?_ | refine goWS2 (vs := [_, _, _]) (cs' := [_, _, _]) hA rfl rfl T.sz66 (by simp [Value.oneCell']) (hS.p 2) rfl rfl ?_ | refine goWS2 (vs := [_, _, _]) (cs' := [_, _, _]) hA rfl rfl T.sz66 (by simp [Value.oneCell']) (hS.p 3) rfl rfl ?_ | refine goWS2 (vs := [_, _, _]) (cs' := [_, _, _]) hA rfl rfl T.sz66 (by simp [Value.oneCell']) (hS.p 4) rfl rfl ?_
                          clear hS; intro w hS
                          refine wpList_nil ?_
                          refine hk20 _ _ ?_
                          clear hk20 k20
                          replace hA := hA.keep (.cons (i := 4) rfl .nil)
                          refine wp_ret ?_
                          refine endR1 hA rfl (resS (cs := [_, _, _]) hA rfl T.ag66 T.sz66 (by first | exact hS.cellsAt (xs := [_, _, _]) rfl | exact (hS.p 1).cellsAt (xs := [_, _, _]) rfl | exact (hS.p 2).cellsAt (xs := [_, _, _]) rfl | exact (hS.p 3).cellsAt (xs := [_, _, _]) rfl | exact (hS.p 4).cellsAt (xs := [_, _, _]) rfl)) ?_
                          exact askOk (oneA0 h11 h18 h30 h37 h23 h45 h50 h56) rfl hS.drop.drop.drop
end Go.Proofs.Ytmnekmclpepclaa.Wk
