/- The walk of barrowlaw05.WireReads: it returns true. Conditions: at most 10 to the 12 asks. -/
import Derived.Test.YtmnekmclpepclaaWkWire16
set_option linter.unusedVariables false
set_option linter.unusedSimpArgs false
namespace Go.Proofs.Ytmnekmclpepclaa.Wk
open Go Go.RowKit Go.Proofs.Ytmnekmclpepclaa Go.Proofs.Ytmnekmclpepclaa.K
set_option maxRecDepth 100000 in
set_option maxHeartbeats 1000000 in
theorem WR1_calls (W w : World) (L : List As) (r q p b6 : Nat) (A : Option Addr) (c : Nat) (bs : List UInt8) (g : GotD) (nx : Nat) (hS : Sat W w (rdc r A c bs 0 true 0 :: cellP q r :: cellE p 0 :: pto b6 (.cells #[.slice none (([] : List GotD)).length 0] 64) :: row 66 3 (.slice none (([] : List GotD)).length 0) (([] : List GotD)).length ((([] : List GotD)).flatMap encG) :: L)) (hb : bs.length ≤ 140737488355328) (hR : ∀ w, Sat W w L → Rd w 1 (.slice A bs.length c) bs.length (bs.map bcell)) (h1 : oneA bs 0 ⟨5, 1⟩ = (g, nx, 0)) : Calls Try.prog 30 #[.pointer (some ⟨r, 0, none⟩), .pointer (some ⟨b6, 0, none⟩)] w fun e w' => ∃ (A' : Option Addr) (c' : Nat), e = .returned (.tuple #[]) ∧ Sat W w' (rdc r A c bs nx true 0 :: cellP q r :: cellE p 0 :: pto b6 (.cells #[.slice A' ([g]).length c'] 64) :: row 66 3 (.slice A' ([g]).length c') ([g]).length (([g]).flatMap encG) :: L) := by
  refine enter Try.func30 rfl rfl rfl (.cons (i := 0) rfl (.cons (i := 1) rfl .nil)) ?_
  intro a hA
  change Sat W w (pto r (.cells #[.slice A bs.length c, .int .i64 0, .bool true, .int .i64 0] 100) :: cellP q r :: cellE p 0 :: pto b6 (.cells #[.slice none 0 0] 64) :: row 66 3 (.slice none 0 0) 0 [] :: L) at hS
  refine xEnter [5, 6] (fun w' => ∃ M : List As, Sat W w' (M ++ cellP q r :: cellE p 0 :: pto b6 (.cells #[.slice none (([] : List GotD)).length 0] 64) :: row 66 3 (.slice none (([] : List GotD)).length 0) (([] : List GotD)).length ((([] : List GotD)).flatMap encG) :: L)) (by kernel_rfl) ?_
  replace hS := hS.drew
  refine K.x1 0 hA pok_body rfl rfl rfl rfl (by kernel_rfl) (by kernel_rfl) (by kernel_rfl) (by kernel_rfl) (by kernel_rfl) (by first | exact ⟨[_], hS⟩ | exact ⟨[_, _], hS⟩) (fun w hT => let ⟨_, hM⟩ := hT; have hS := hM.past; (r_load (hA.ev rfl) T.fl64 (by first | exact hS.cell rfl | exact (hS.p 1).cell rfl | exact (hS.p 2).cell rfl | exact (hS.p 3).cell rfl | exact (hS.p 4).cell rfl | exact (hS.p 5).cell rfl | exact (hS.p 6).cell rfl))) ?_; clear hA a; intro a hA
  refine K.p1 1 hA pok_body rfl rfl rfl rfl (by kernel_rfl) (by kernel_rfl) (by kernel_rfl) (fun w => (r_move (hA.ev rfl))) ?_; clear hA a; intro a hA
  refine K.p1 2 hA pok_body rfl rfl rfl rfl (by kernel_rfl) (by kernel_rfl) (by kernel_rfl) (fun w => (r_build hA rfl T.bd69_0_1)) ?_; clear hA a; intro a hA
  refine xOne 3 (by kernel_rfl) ?_
  refine eFP hA rfl rfl T.en31 rfl (ask_calls _ _ _ r A c bs 0 ⟨5, 1⟩ hS (by omega) (by omega) (fun w h => hR w h.drop.drop.drop.drop) (by decide) (by decide)) ?_
  rintro e w (⟨h0, rfl, hS⟩ | ⟨h0, _⟩)
  rotate_left 1
  · skip
    exact absurd (by rw [h1]) h0
  rw [h1] at hS ⊢
  refine .inl ⟨_, rfl, ?_⟩; clear hA a; intro a hA
  refine ⟨.inr fun _ => (by first | exact ⟨[_], hS⟩ | exact ⟨[_, _], hS⟩), ?_⟩
  refine xOne 4 (by kernel_rfl) ?_
  refine eLS (vss := [[_, _, _]]) hA rfl rfl rfl T.un64 T.el66 rfl rfl rfl (by simp) rfl hS ?_
  clear hA a hS; intro A7 w hS a hA
  refine ⟨.inr fun _ => (by first | exact ⟨[_], hS⟩ | exact ⟨[_, _], hS⟩), ?_⟩
  refine xOne 5 (by kernel_rfl) ?_
  refine eA hA rfl rfl rfl rfl T.un64 T.el66 rfl (hS.p 5) (hS.rd.src T.un64 (by simp [encG, Value.oneCell'])) (by simp) (by simp) ?_
  clear hA a hS; intro A8 c8 w hc8 hS a hA
  refine ⟨.inl rfl, ?_⟩
  refine xOne 6 (by kernel_rfl) ?_
  first | refine eW hA rfl rfl rfl T.fl64 T.sz64 rfl hS rfl ?_ | refine eW hA rfl rfl rfl T.fl64 T.sz64 rfl (hS.p 1) rfl ?_ | refine eW hA rfl rfl rfl T.fl64 T.sz64 rfl (hS.p 2) rfl ?_ | refine eW hA rfl rfl rfl T.fl64 T.sz64 rfl (hS.p 3) rfl ?_ | refine eW hA rfl rfl rfl T.fl64 T.sz64 rfl (hS.p 4) rfl ?_ | refine eW hA rfl rfl rfl T.fl64 T.sz64 rfl (hS.p 5) rfl ?_ | refine eW hA rfl rfl rfl T.fl64 T.sz64 rfl (hS.p 6) rfl ?_
  clear hS; intro w hS
  refine ⟨.inl rfl, ?_⟩
  refine wpAnyX_done (by kernel_rfl) ?_ _
  refine end_n (e := .ret) ?_
  refine end0 hA rfl  ?_
  exact ⟨_, _, rfl, ((((((hS.p 1).p 1).p 5).p 5).p 5).p 5).drop⟩
set_option maxRecDepth 100000 in
set_option maxHeartbeats 1000000 in
theorem WireReads_calls (W : World) (A : Option Addr) (c : Nat) (bs : List UInt8) (Aq : Option Addr) (cs : Nat) (asks : List AskD) (hR : Rd W 1 (.slice A bs.length c) bs.length (bs.map bcell)) (hb : bs.length ≤ 1000000000000) (hQ : Rd W 2 (.slice Aq asks.length cs) asks.length (asks.flatMap encA)) (hw : ∀ x ∈ asks, -9223372036854775808 ≤ x.n ∧ x.n ≤ 9223372036854775807) (hl : asks.length ≤ 1000000000000) : Calls Try.prog 8 #[.slice A bs.length c, .slice Aq asks.length cs] W fun e w' => e = .returned (.bool true) ∧ Sat W w' [] := by
  refine enter Try.func8 rfl rfl rfl (.cons (i := 0) rfl (.cons (i := 1) rfl .nil)) ?_
  intro a hA
  have hS := Sat.start W
  refine wp_seq_k fun k1 hk1 => ?_
  refine wp_region_lit ?_
  refine goB hA rfl rfl hS ?_
  clear hA a hS; intro b3 w hS a hA
  refine go1 hA rfl rfl rfl (r_assign (hA.ev rfl)) ?_; clear hA a; intro a hA
  refine wpList_nil ?_
  refine hk1 _ _ ?_
  clear hk1 k1
  replace hA := hA.keep (.cons (i := 0) rfl (.cons (i := 3) rfl (.cons (i := 4) rfl .nil)))
  refine wp_seq_k fun k2 hk2 => ?_
  refine wp_region_lit ?_
  refine go1 hA rfl rfl rfl (r_move (hA.ev rfl)) ?_; clear hA a; intro a hA
  refine go1 hA rfl rfl rfl (r_lens (hA.ev rfl) T.un22) ?_; clear hA a; intro a hA
  refine go1 hA rfl rfl rfl (as_val (r_add64 (hA.ev rfl) (hA.ev rfl) (by omega) (by omega)) (show _ = Value.int .i64 ((bs.length + 9 : Nat) : Int) from rfl)) ?_; clear hA a; intro a hA
  refine goM hA rfl rfl rfl T.un22 T.el5 rfl (by omega) (by omega) hS ?_
  clear hA a hS; intro b15 w hS a hA
  replace hS := hS.ptoRow (m := bs.length + 9) (sz := 1) (by simp) (by omega)
  refine go1 hA rfl rfl rfl (r_assign (hA.ev rfl)) ?_; clear hA a; intro a hA
  refine wpList_nil ?_
  refine hk2 _ _ ?_
  clear hk2 k2
  replace hA := hA.keep (.cons (i := 0) rfl (.cons (i := 3) rfl (.cons (i := 4) rfl (.cons (i := 5) rfl .nil))))
  refine wp_seq_k fun k3 hk3 => ?_
  refine wp_region_lit ?_
  refine go1 hA rfl rfl rfl (r_move (hA.ev rfl)) ?_; clear hA a; intro a hA
  refine go1 hA rfl rfl rfl (r_move (hA.ev rfl)) ?_; clear hA a; intro a hA
  refine goCopy hA rfl rfl rfl T.un22 T.el5 hS (hR.sat hS) (bcells_one _) ?_
  clear hA a hS; intro w hS a hA
  rw [b_full] at hS
  replace hS : Sat _ _ [row 5 1 (.slice (some ⟨b15, 0, none⟩) (bs.length + 9) (bs.length + 9)) (bs.length + 9) ((bs ++ List.replicate 9 0).map bcell), _] := hS
  refine wpList_nil ?_
  refine hk3 _ _ ?_
  clear hk3 k3
  replace hA := hA.keep (.cons (i := 0) rfl (.cons (i := 3) rfl (.cons (i := 4) rfl (.cons (i := 5) rfl .nil))))
  refine wp_seq_k fun k4 hk4 => ?_
  refine wp_region_lit ?_
  refine goN hA rfl T.zv64 hS ?_
  clear hA a hS; intro b6 w hS a hA
  refine wpList_nil ?_
  refine hk4 _ _ ?_
  clear hk4 k4
  refine wp_seq_k fun k5 hk5 => ?_
  refine wp_region_lit ?_
  refine goN hA rfl T.zv60 hS ?_
  clear hA a hS; intro b7 w hS a hA
  refine wpList_nil ?_
  refine hk5 _ _ ?_
  clear hk5 k5
  refine wp_seq_k fun k6 hk6 => ?_
  refine wp_region_lit ?_
  refine goL hA rfl rfl T.un22 T.el5 rfl rfl rfl (by simp [Value.oneCell']) hS ?_
  clear hA a hS; intro A19 w hS a hA
  refine go1 hA rfl rfl rfl (r_mkF (hA.evl rfl)) ?_; clear hA a; intro a hA
  refine goF hA rfl T.en26 rfl (Read_calls _ _ _ A19 3 [2, 5, 6] (fun r at' err ok M => ∃ (A' : Option Addr) (c' : Nat), ok = true ∧ err = 0 ∧ at' = 1 ∧ M = pto b6 (.cells #[.slice A' 1 c'] 64) :: row 66 3 (.slice A' ([GotD.mk 2 false ⟨#[]⟩]).length c') ([GotD.mk 2 false ⟨#[]⟩]).length (([GotD.mk 2 false ⟨#[]⟩]).flatMap encG) :: [row 5 1 (.slice A19 3 3) 3 [.int .u8 2, .int .u8 5, .int .u8 6], pto b7 (.cells #[.pointer none] 60), row 5 1 (.slice (some ⟨b15, 0, none⟩) (bs.length + 9) (bs.length + 9)) (bs.length + 9) ((bs ++ List.replicate 9 0).map bcell), pto b3 (.cells #[.slice Aq asks.length cs] 63)]) 30 [.pointer (some ⟨b6, 0, none⟩)] ((((((((hS.row_nil 66 3).p 5).p 5).p 4).p 4).p 4).p 5)) (by simp) T.en30 (fun w r q p hS => (WR1_calls _ _ _ r q p b6 A19 3 [2, 5, 6] ⟨2, false, ⟨#[]⟩⟩ 1 hS (by simp) (fun w h => h.rd) rfl).mono fun e w' ⟨A', c', he, hS⟩ => ⟨1, 0, true, _, .inl ⟨rfl, he⟩, hS, A', c', rfl, rfl, rfl, rfl⟩)) ?_
  clear hA a; rintro e w ⟨r, q, p, at', err, ok, M, he, hS, A1, c1, rfl, rfl, rfl, rfl⟩; rw [show finR true 0 1 ([2, 5, 6] : List UInt8).length = 52 from by decide] at he; subst he; replace hS := hS.drop.drop.drop
  refine ⟨_, rfl, ?_⟩; intro a hA
  refine go1 hA rfl rfl rfl (r_assign (hA.ev rfl)) ?_; clear hA a; intro a hA
  refine wpList_nil ?_
  refine hk6 _ _ ?_
  clear hk6 k6
  replace hA := hA.keep (.cons (i := 0) rfl (.cons (i := 3) rfl (.cons (i := 4) rfl (.cons (i := 5) rfl (.cons (i := 6) rfl (.cons (i := 7) rfl (.cons (i := 8) rfl .nil)))))))
  refine wp_seq_k fun k7 hk7 => ?_
  refine wp_seq_k fun k8 hk8 => ?_
  refine wp_region_lit ?_
  refine go1 hA rfl rfl rfl (r_move (hA.ev rfl)) ?_; clear hA a; intro a hA
  refine go1 hA rfl rfl rfl (as_f (r_neq (hA.ev rfl) (hA.ev rfl)) (by omega)) ?_; clear hA a; intro a hA
  refine go1 hA rfl rfl rfl (r_move (hA.ev rfl)) ?_; clear hA a; intro a hA
  refine go1y hA (wanted_yes hA rfl rfl rfl) rfl rfl (r_load (hA.ev rfl) T.fl64 (by first | exact hS.cell rfl | exact (hS.p 1).cell rfl | exact (hS.p 2).cell rfl | exact (hS.p 3).cell rfl | exact (hS.p 4).cell rfl | exact (hS.p 5).cell rfl | exact (hS.p 6).cell rfl | exact (hS.p 7).cell rfl | exact (hS.p 8).cell rfl)) ?_; clear hA a; intro a hA
  refine go1y hA (wanted_yes hA rfl rfl rfl) rfl rfl (r_lens (hA.ev rfl) T.un64) ?_; clear hA a; intro a hA
  refine go1y hA (wanted_yes hA rfl rfl rfl) rfl rfl (as_f (r_neq (hA.ev rfl) (hA.ev rfl)) (by omega)) ?_; clear hA a; intro a hA
  refine go1 hA rfl rfl rfl (r_pick_f (hA.ev rfl) (hA.ev rfl)) ?_; clear hA a; intro a hA
  refine go1 hA rfl rfl rfl (r_move (hA.ev rfl)) ?_; clear hA a; intro a hA
  refine go1y hA (wanted_yes hA rfl rfl rfl) rfl rfl (r_load (hA.ev rfl) T.fl64 (by first | exact hS.cell rfl | exact (hS.p 1).cell rfl | exact (hS.p 2).cell rfl | exact (hS.p 3).cell rfl | exact (hS.p 4).cell rfl | exact (hS.p 5).cell rfl | exact (hS.p 6).cell rfl | exact (hS.p 7).cell rfl | exact (hS.p 8).cell rfl)) ?_; clear hA a; intro a hA
  obtain ⟨A1_p, rfl⟩ : ∃ q, A1 = some q := (hS.p 1).rd.hasAddr (by simp)
  have hg2 : (GotD.mk 2 false ⟨#[]⟩).n = 2 := rfl
  obtain ⟨g, hg⟩ : ∃ x, [GotD.mk 2 false ⟨#[]⟩][(0 : Int).toNat]? = some x := ⟨_, List.getElem?_eq_getElem (by decide)⟩
  obtain rfl : GotD.mk 2 false ⟨#[]⟩ = g := Option.some.inj hg
  refine go1y hA (wanted_yes hA rfl rfl rfl) rfl rfl (r_index (hA.ev rfl) (hA.ev rfl) T.un64 T.sz66 (by omega) (by omega)) ?_; clear hA a; intro a hA
  refine go1y hA (wanted_yes hA rfl rfl rfl) rfl rfl (r_fieldP (hA.ev rfl) T.fo66_0) ?_; clear hA a; intro a hA
  refine go1y hA (wanted_yes hA rfl rfl rfl) rfl rfl (r_load (hA.ev rfl) T.fl3 (rdl2 (hS.p 1).rd (got_at hg 0 _ rfl))) ?_; clear hA a; intro a hA
  refine go1y hA (wanted_yes hA rfl rfl rfl) rfl rfl (as_f (r_neq (hA.ev rfl) (hA.ev rfl)) (by omega)) ?_; clear hA a; intro a hA
  refine go1 hA rfl rfl rfl (r_pick_f (hA.ev rfl) (hA.ev rfl)) ?_; clear hA a; intro a hA
  refine go1 hA rfl rfl rfl (r_move (hA.ev rfl)) ?_; clear hA a; intro a hA
  refine goFy hA (wanted_yes hA rfl rfl rfl) rfl T.en26 rfl (Read_nil _ _ _ none 0 [] hS (by simp)) ?_
  clear hA a; rintro e w ⟨rfl, hS⟩; have hf0 : finR true 0 0 ([] : List UInt8).length = 0 := by decide
  refine ⟨_, rfl, ?_⟩; intro a hA
  refine go1y hA (wanted_yes hA rfl rfl rfl) rfl rfl (as_f (r_neq (hA.ev rfl) (hA.ev rfl)) (by omega)) ?_; clear hA a; intro a hA
  refine go1 hA rfl rfl rfl (r_pick_f (hA.ev rfl) (hA.ev rfl)) ?_; clear hA a; intro a hA
  refine go1 hA rfl rfl rfl (r_move (hA.ev rfl)) ?_; clear hA a; intro a hA
  refine goLy hA (wanted_yes hA rfl rfl rfl) rfl rfl T.un22 T.el5 rfl rfl rfl (by simp [Value.oneCell']) hS ?_
  clear hA a hS; intro A41 w hS a hA
  refine goFy hA (wanted_yes hA rfl rfl rfl) rfl T.en26 rfl (Read_nil _ _ _ A41 1 [1] hS (by simp)) ?_
  clear hA a; rintro e w ⟨rfl, hS⟩; have hf1 : finR true 0 0 ([1] : List UInt8).length = 52 := by decide
  refine ⟨_, rfl, ?_⟩; intro a hA
  refine go1y hA (wanted_yes hA rfl rfl rfl) rfl rfl (as_f (r_neq (hA.ev rfl) (hA.ev rfl)) (by omega)) ?_; clear hA a; intro a hA
  refine go1 hA rfl rfl rfl (r_pick_f (hA.ev rfl) (hA.ev rfl)) ?_; clear hA a; intro a hA
  refine wpList_nil ?_
  refine hk8 _ _ ?_
  clear hk8 k8
  replace hA := hA.keep (.cons (i := 0) rfl (.cons (i := 3) rfl (.cons (i := 4) rfl (.cons (i := 5) rfl (.cons (i := 6) rfl (.cons (i := 7) rfl (.cons (i := 8) rfl (.cons (i := 44) rfl .nil))))))))
  refine wp_cond_false (hA.ev rfl) ?_
  refine wp_skip ?_
  refine hk7 _ _ ?_
  clear hk7 k7
  replace hA := hA.keep (.cons (i := 0) rfl (.cons (i := 3) rfl (.cons (i := 4) rfl (.cons (i := 5) rfl (.cons (i := 6) rfl (.cons (i := 7) rfl (.cons (i := 8) rfl .nil)))))))
  refine wp_seq_k fun k9 hk9 => ?_
  refine wp_region_lit ?_
  first | refine goW2 (cs' := [_]) hA rfl rfl T.fl64 T.sz64 rfl hS rfl rfl ?_ | refine goW2 (cs' := [_]) hA rfl rfl T.fl64 T.sz64 rfl (hS.p 1) rfl rfl ?_ | refine goW2 (cs' := [_]) hA rfl rfl T.fl64 T.sz64 rfl (hS.p 2) rfl rfl ?_ | refine goW2 (cs' := [_]) hA rfl rfl T.fl64 T.sz64 rfl (hS.p 3) rfl rfl ?_ | refine goW2 (cs' := [_]) hA rfl rfl T.fl64 T.sz64 rfl (hS.p 4) rfl rfl ?_ | refine goW2 (cs' := [_]) hA rfl rfl T.fl64 T.sz64 rfl (hS.p 5) rfl rfl ?_ | refine goW2 (cs' := [_]) hA rfl rfl T.fl64 T.sz64 rfl (hS.p 6) rfl rfl ?_ | refine goW2 (cs' := [_]) hA rfl rfl T.fl64 T.sz64 rfl (hS.p 7) rfl rfl ?_ | refine goW2 (cs' := [_]) hA rfl rfl T.fl64 T.sz64 rfl (hS.p 8) rfl rfl ?_
  clear hS; intro w hS
  refine wpList_nil ?_
  refine hk9 _ _ ?_
  clear hk9 k9
  refine wp_seq_k fun k10 hk10 => ?_
  refine wp_region_lit ?_
  refine go1 hA rfl rfl rfl (r_move (hA.ev rfl)) ?_; clear hA a; intro a hA
  refine go1 hA rfl rfl rfl (r_move (hA.ev rfl)) ?_; clear hA a; intro a hA
  refine go1 hA rfl rfl rfl (r_lens (hA.ev rfl) T.un22) ?_; clear hA a; intro a hA
  refine go1 hA rfl rfl rfl (as_val (r_slice_h (hA.ev rfl) (hA.ev rfl) T.un22 T.sz5 (by omega) (by omega)) (show _ = Value.slice (cutA (some ⟨b15, 0, none⟩) (bs.length + 9) 1 0) bs.length (bs.length + 9) from rfl)) ?_; clear hA a; intro a hA
  refine go1 hA rfl rfl rfl (r_mkF (hA.evl rfl)) ?_; clear hA a; intro a hA
  refine goF hA rfl T.en26 rfl (Read_calls _ _ _ _ _ bs (fun r at' err ok M => ∃ (gs : List GotD) (A' : Option Addr) (c' : Nat), M = pto b7 (.cells #[.pointer (some ⟨r, 0, none⟩)] 60) :: pto b3 (.cells #[.slice Aq asks.length cs] 63) :: pto b6 (.cells #[.slice A' gs.length c'] 64) :: row 66 3 (.slice A' (gs).length c') (gs).length ((gs).flatMap encG) :: [row 5 1 (.slice (some ⟨b15, 0, none⟩) (bs.length + 9) (bs.length + 9)) (bs.length + 9) ((bs ++ List.replicate 9 0).map bcell)] ∧ rdAll bs asks = (gs, finR ok err at' bs.length)) 32 [.pointer (some ⟨b7, 0, none⟩), .pointer (some ⟨b3, 0, none⟩), .pointer (some ⟨b6, 0, none⟩)] (Sat.nilTo (M := [_, _, _, _, _]) ((((((hS.row_nil 66 3).p 6).p 1).p 2).p 7).p 7) _) (by omega) T.en32 (fun w r q p hS => (WR2_calls _ _ _ r q p b7 b3 b6 _ _ bs Aq cs asks hS (by omega) (fun w h => full_rd (zs := List.replicate 9 0) (by simpa using h.rd)) hQ hw hl).mono fun e w' ⟨at', err, ok, gs, A', c', ho, hS, hr⟩ => ⟨at', err, ok, _, ho, hS, gs, A', c', rfl, hr⟩)) ?_
  clear hA a; rintro e w ⟨r, q, p, at', err, ok, M, rfl, hS, gs, A1, c1, rfl, hr⟩; obtain ⟨fin, hfin⟩ : ∃ f, f = finR ok err at' bs.length := ⟨_, rfl⟩; rw [← hfin] at hr hS ⊢
  refine ⟨_, rfl, ?_⟩; intro a hA
  refine go1 hA rfl rfl rfl (r_assign (hA.ev rfl)) ?_; clear hA a; intro a hA
  refine wpList_nil ?_
  refine hk10 _ _ ?_
  clear hk10 k10
  replace hA := hA.keep (.cons (i := 0) rfl (.cons (i := 3) rfl (.cons (i := 4) rfl (.cons (i := 5) rfl (.cons (i := 6) rfl (.cons (i := 7) rfl (.cons (i := 8) rfl .nil)))))))
  refine wp_seq_k fun k11 hk11 => ?_
  refine wp_region_lit ?_
  refine go1 hA rfl rfl rfl (r_move (hA.ev rfl)) ?_; clear hA a; intro a hA
  refine go1 hA rfl rfl rfl (r_load (hA.ev rfl) T.fl63 (by first | exact hS.cell rfl | exact (hS.p 1).cell rfl | exact (hS.p 2).cell rfl | exact (hS.p 3).cell rfl | exact (hS.p 4).cell rfl | exact (hS.p 5).cell rfl | exact (hS.p 6).cell rfl | exact (hS.p 7).cell rfl | exact (hS.p 8).cell rfl)) ?_; clear hA a; intro a hA
  refine goF hA rfl T.en33 rfl (RefRead_calls _ A c bs Aq cs asks (hR.sat hS) (by omega) (hQ.sat hS) hw hl) ?_
  clear hA a; rintro e w ⟨A2, c2, rfl, hT⟩; replace hS := hS.rebase1 hT; clear hT; have hgl := rdAll_len (bs := bs) (l := asks); rw [hr] at hS hgl ⊢; dsimp only at hS hgl ⊢
  refine ⟨_, rfl, ?_⟩; intro a hA
  refine go1 hA rfl rfl rfl (r_move (hA.ev rfl)) ?_; clear hA a; intro a hA
  refine go1 hA rfl rfl rfl (r_ext (hA.ev rfl) rfl) ?_; clear hA a; intro a hA
  refine go1 hA rfl rfl rfl (r_ext (hA.ev rfl) rfl) ?_; clear hA a; intro a hA
  refine go1 hA rfl rfl rfl (r_assign (hA.ev rfl)) ?_; clear hA a; intro a hA
  refine go1 hA rfl rfl rfl (r_assign (hA.ev rfl)) ?_; clear hA a; intro a hA
  refine wpList_nil ?_
  refine hk11 _ _ ?_
  clear hk11 k11
  replace hA := hA.keep (.cons (i := 0) rfl (.cons (i := 4) rfl (.cons (i := 5) rfl (.cons (i := 6) rfl (.cons (i := 7) rfl (.cons (i := 8) rfl (.cons (i := 9) rfl (.cons (i := 10) rfl .nil))))))))
  refine wp_seq_k fun k12 hk12 => ?_
  refine wp_seq_k fun k13 hk13 => ?_
  refine wp_region_lit ?_
  refine go1 hA rfl rfl rfl (r_move (hA.ev rfl)) ?_; clear hA a; intro a hA
  refine go1 hA rfl rfl rfl (r_move (hA.ev rfl)) ?_; clear hA a; intro a hA
  refine go1 hA rfl rfl rfl (as_f (r_neq (hA.ev rfl) (hA.ev rfl)) (by omega)) ?_; clear hA a; intro a hA
  refine go1 hA rfl rfl rfl (r_move (hA.ev rfl)) ?_; clear hA a; intro a hA
  refine go1y hA (wanted_yes hA rfl rfl rfl) rfl rfl (r_load (hA.ev rfl) T.fl64 (by first | exact hS.cell rfl | exact (hS.p 1).cell rfl | exact (hS.p 2).cell rfl | exact (hS.p 3).cell rfl | exact (hS.p 4).cell rfl | exact (hS.p 5).cell rfl | exact (hS.p 6).cell rfl | exact (hS.p 7).cell rfl | exact (hS.p 8).cell rfl)) ?_; clear hA a; intro a hA
  refine go1y hA (wanted_yes hA rfl rfl rfl) rfl rfl (r_move (hA.ev rfl)) ?_; clear hA a; intro a hA
  refine goFy hA (wanted_yes hA rfl rfl rfl) rfl T.en34 rfl (alike_calls _ _ _ _ _ gs (hS.p 7).rd hS.rd (by omega)) ?_
  clear hA a; rintro e w ⟨rfl, hT⟩; replace hS : Sat _ _ (_ :: _) := hS.rebase hT; clear hT
  refine ⟨_, rfl, ?_⟩; intro a hA
  refine go1by hA (wanted_yes hA rfl rfl rfl) rfl rfl (r_not (hA.ev rfl)) ?_ ?_
  · clear hA a; intro h64 a hA
    try simp only [decide_eq_decide, decide_eq_true_eq, decide_eq_false_iff_not, Bool.not_eq_true', Bool.not_eq_false', bne_iff_ne, ne_eq, beq_iff_eq, Bool.not_eq_true, Bool.not_eq_false] at h64
    try (first | contradiction | (exfalso; omega) | (exfalso; simp at h64; done))
    all_goals
     skip
     refine go1 hA rfl rfl rfl (r_pick_f (hA.ev rfl) (hA.ev rfl)) ?_; clear hA a; intro a hA
     refine go1 hA rfl rfl rfl (r_move (hA.ev rfl)) ?_; clear hA a; intro a hA
     refine goS hA (wanted_no hA rfl rfl rfl rfl) rfl rfl ?_; clear hA a; intro a hA
     refine goS hA (wanted_no hA rfl rfl rfl rfl) rfl rfl ?_; clear hA a; intro a hA
     refine go1 hA rfl rfl rfl (r_pick_t (hA.ev rfl) (hA.ev rfl)) ?_; clear hA a; intro a hA
     refine go1 hA rfl rfl rfl (r_move (hA.ev rfl)) ?_; clear hA a; intro a hA
     refine goS hA (wanted_no hA rfl rfl rfl rfl) rfl rfl ?_; clear hA a; intro a hA
     refine goS hA (wanted_no hA rfl rfl rfl rfl) rfl rfl ?_; clear hA a; intro a hA
     refine goS hA (wanted_no hA rfl rfl rfl rfl) rfl rfl ?_; clear hA a; intro a hA
     refine go1 hA rfl rfl rfl (r_pick_t (hA.ev rfl) (hA.ev rfl)) ?_; clear hA a; intro a hA
     refine wpList_nil ?_
     refine hk13 _ _ ?_
     clear hk13 k13
     replace hA := hA.keep (.cons (i := 0) rfl (.cons (i := 4) rfl (.cons (i := 5) rfl (.cons (i := 74) rfl .nil))))
     refine wp_cond_true (hA.ev rfl) ?_
     refine wp_seq_k fun k14 hk14 => ?_
     refine wp_region_lit ?_
     refine go1 hA rfl rfl rfl (r_assign (hA.ev rfl)) ?_; clear hA a; intro a hA
     refine wpList_nil ?_
     refine hk14 _ _ ?_
     clear hk14 k14
     replace hA := hA.keep (.cons (i := 0) rfl (.cons (i := 4) rfl (.cons (i := 5) rfl .nil)))
     refine wp_ret ?_
     refine then_ret ?_; clear hk12 k12
     refine end1 hA rfl rfl ?_
     exact ⟨rfl, Sat.none_ hS⟩
  · clear hA a; intro h64 a hA
    try simp only [decide_eq_decide, decide_eq_true_eq, decide_eq_false_iff_not, Bool.not_eq_true', Bool.not_eq_false', bne_iff_ne, ne_eq, beq_iff_eq, Bool.not_eq_true, Bool.not_eq_false] at h64
    try (first | contradiction | (exfalso; omega) | (exfalso; simp at h64; done))
    all_goals
     skip
     refine go1 hA rfl rfl rfl (r_pick_f (hA.ev rfl) (hA.ev rfl)) ?_; clear hA a; intro a hA
     refine go1 hA rfl rfl rfl (r_move (hA.ev rfl)) ?_; clear hA a; intro a hA
     refine go1y hA (wanted_yes hA rfl rfl rfl) rfl rfl (r_load (hA.ev rfl) T.fl60 (by first | exact hS.cell rfl | exact (hS.p 1).cell rfl | exact (hS.p 2).cell rfl | exact (hS.p 3).cell rfl | exact (hS.p 4).cell rfl | exact (hS.p 5).cell rfl | exact (hS.p 6).cell rfl | exact (hS.p 7).cell rfl | exact (hS.p 8).cell rfl)) ?_; clear hA a; intro a hA
     refine go1y hA (wanted_yes hA rfl rfl rfl) rfl rfl (r_eqpn (hA.ev rfl) (hA.ev rfl) T.un60) ?_; clear hA a; intro a hA
     refine go1 hA rfl rfl rfl (r_pick_f (hA.ev rfl) (hA.ev rfl)) ?_; clear hA a; intro a hA
     refine go1 hA rfl rfl rfl (r_move (hA.ev rfl)) ?_; clear hA a; intro a hA
     refine go1y hA (wanted_yes hA rfl rfl rfl) rfl rfl (r_load (hA.ev rfl) T.fl60 (by first | exact hS.cell rfl | exact (hS.p 1).cell rfl | exact (hS.p 2).cell rfl | exact (hS.p 3).cell rfl | exact (hS.p 4).cell rfl | exact (hS.p 5).cell rfl | exact (hS.p 6).cell rfl | exact (hS.p 7).cell rfl | exact (hS.p 8).cell rfl)) ?_; clear hA a; intro a hA
     refine goFy hA (wanted_yes hA rfl rfl rfl) rfl T.en35 rfl (over_calls _ _ _ r at' err (hS.p 1)) ?_
     clear hA a; rintro e w ⟨rfl, hT⟩; replace hS : Sat _ _ (_ :: _) := hS.rebase hT; clear hT
     refine ⟨_, rfl, ?_⟩; intro a hA
     refine go1by hA (wanted_yes hA rfl rfl rfl) rfl rfl (r_not (hA.ev rfl)) ?_ ?_
     · clear hA a; intro h73 a hA
       try simp only [decide_eq_decide, decide_eq_true_eq, decide_eq_false_iff_not, Bool.not_eq_true', Bool.not_eq_false', bne_iff_ne, ne_eq, beq_iff_eq, Bool.not_eq_true, Bool.not_eq_false] at h73
       try (first | contradiction | (exfalso; omega) | (exfalso; simp at h73; done))
       all_goals
        skip
        refine go1 hA rfl rfl rfl (r_pick_f (hA.ev rfl) (hA.ev rfl)) ?_; clear hA a; intro a hA
        refine wpList_nil ?_
        refine hk13 _ _ ?_
        clear hk13 k13
        replace hA := hA.keep (.cons (i := 0) rfl (.cons (i := 4) rfl (.cons (i := 5) rfl (.cons (i := 74) rfl .nil))))
        refine wp_cond_true (hA.ev rfl) ?_
        refine wp_seq_k fun k15 hk15 => ?_
        refine wp_region_lit ?_
        refine go1 hA rfl rfl rfl (r_assign (hA.ev rfl)) ?_; clear hA a; intro a hA
        refine wpList_nil ?_
        refine hk15 _ _ ?_
        clear hk15 k15
        replace hA := hA.keep (.cons (i := 0) rfl (.cons (i := 4) rfl (.cons (i := 5) rfl .nil)))
        refine wp_ret ?_
        refine then_ret ?_; clear hk12 k12
        refine end1 hA rfl rfl ?_
        exact ⟨rfl, Sat.none_ hS⟩
     · clear hA a; intro h73 a hA
       try simp only [decide_eq_decide, decide_eq_true_eq, decide_eq_false_iff_not, Bool.not_eq_true', Bool.not_eq_false', bne_iff_ne, ne_eq, beq_iff_eq, Bool.not_eq_true, Bool.not_eq_false] at h73
       try (first | contradiction | (exfalso; omega) | (exfalso; simp at h73; done))
       all_goals
        skip
        refine go1 hA rfl rfl rfl (r_pick_f (hA.ev rfl) (hA.ev rfl)) ?_; clear hA a; intro a hA
        refine wpList_nil ?_
        refine hk13 _ _ ?_
        clear hk13 k13
        replace hA := hA.keep (.cons (i := 0) rfl (.cons (i := 4) rfl (.cons (i := 5) rfl (.cons (i := 74) rfl .nil))))
        refine wp_cond_false (hA.ev rfl) ?_
        refine wp_skip ?_
        refine hk12 _ _ ?_
        clear hk12 k12
        replace hA := hA.keep (.cons (i := 0) rfl (.cons (i := 4) rfl (.cons (i := 5) rfl .nil)))
        refine wp_seq_k fun k16 hk16 => ?_
        refine wp_seq_k fun k17 hk17 => ?_
        refine wp_region_lit ?_
        refine go1 hA rfl rfl rfl (r_assign (hA.ev rfl)) ?_; clear hA a; intro a hA
        refine wpList_nil ?_
        refine hk17 _ _ ?_
        clear hk17 k17
        refine wp_block ?_
        refine wp_loop_ghost (fun (mm : Nat) a w => ∃ (i : Nat), Ag a 109 [(0, .slice A bs.length c), (5, .slice (some ⟨b15, 0, none⟩) (bs.length + 9) (bs.length + 9)), (11, .int .i64 ((i : Nat) : Int))] ∧ Sat W w ([row 5 1 (.slice (some ⟨b15, 0, none⟩) (bs.length + 9) (bs.length + 9)) (bs.length + 9) ((bs ++ List.replicate 9 0).map bcell)]) ∧ (i ≤ bs.length + 9) ∧ mm = bs.length + 9 - i) (bs.length + 9) ?_ ?_
        · replace hA := hA.keep (.cons (i := 0) rfl (.cons (i := 5) rfl (.cons (i := 11) rfl .nil)))
          exact ⟨0, hA, (Sat.nilTo (M := [_]) (hS.p 8) _), (by omega), by omega⟩
        intro m a w hI
        clear hS hA; obtain ⟨i, hA, hS, hi, rfl⟩ := hI
        refine wp_seq_k fun k18 hk18 => ?_
        refine wp_seq_k fun k19 hk19 => ?_
        refine wp_region_lit ?_
        refine go1 hA rfl rfl rfl (r_move (hA.ev rfl)) ?_; clear hA a; intro a hA
        refine go1 hA rfl rfl rfl (r_move (hA.ev rfl)) ?_; clear hA a; intro a hA
        refine go1 hA rfl rfl rfl (r_lens (hA.ev rfl) T.un22) ?_; clear hA a; intro a hA
        refine go1s hA rfl rfl rfl (r_lss (hA.ev rfl) (hA.ev rfl)) ?_ ?_
        · clear hA a; intro h78 a hA
          try (first | contradiction | (exfalso; omega) | (exfalso; simp at h78; done))
          all_goals
           skip
           refine wpList_nil ?_
           refine hk19 _ _ ?_
           clear hk19 k19
           refine wp_cond_true (hA.ev rfl) ?_
           refine wp_skip ?_
           refine hk18 _ _ ?_
           clear hk18 k18
           refine wp_seq_k fun k20 hk20 => ?_
           refine wp_block ?_
           refine wp_seq_k fun k21 hk21 => ?_
           refine qEnter (fun w' => Sat _ w' _) (by kernel_rfl) (by kernel_rfl) hS.drew ?_
           refine K.q1 hA rfl rfl rfl (fun w hS => (r_move (hA.ev rfl))) ?_; clear hA a; intro a hA
           refine K.q1 hA rfl rfl rfl (fun w hS => (r_move (hA.ev rfl))) ?_; clear hA a; intro a hA
           refine K.q1 hA rfl rfl rfl (fun w hS => (r_lens (hA.ev rfl) T.un22)) ?_; clear hA a; intro a hA
           refine K.q1s hA rfl rfl rfl (fun w hS => (r_lss (hA.ev rfl) (hA.ev rfl))) ?_ ?_
           · clear hA a; intro h84 a hA
             try (first | contradiction | (exfalso; omega) | (exfalso; simp at h84; done))
             all_goals
              skip
              refine K.q1 hA rfl rfl rfl (fun w hS => (r_move (hA.ev rfl))) ?_; clear hA a; intro a hA
              refine K.q1y hA (wanted_yes hA rfl rfl rfl) rfl rfl (fun w hS => (r_move (hA.ev rfl))) ?_; clear hA a; intro a hA
              refine K.q1y hA (wanted_yes hA rfl rfl rfl) rfl rfl (fun w hS => (r_move (hA.ev rfl))) ?_; clear hA a; intro a hA
              obtain ⟨x, hx⟩ : ∃ x, (bs ++ List.replicate 9 0)[(i : Int).toNat]? = some x := ⟨_, List.getElem?_eq_getElem (by simp; omega)⟩
              refine K.q1y hA (wanted_yes hA rfl rfl rfl) rfl rfl (fun w hS => (r_index (hA.ev rfl) (hA.ev rfl) T.un22 T.sz5 (by omega) (by omega))) ?_; clear hA a; intro a hA
              refine K.q1y hA (wanted_yes hA rfl rfl rfl) rfl rfl (fun w hS => (r_load (hA.ev rfl) T.fl5 (rdl hS.rd (map_at hx)))) ?_; clear hA a; intro a hA
              refine K.q1y hA (wanted_yes hA rfl rfl rfl) rfl rfl (fun w hS => (r_move (hA.ev rfl))) ?_; clear hA a; intro a hA
              refine K.q1y hA (wanted_yes hA rfl rfl rfl) rfl rfl (fun w hS => (r_move (hA.ev rfl))) ?_; clear hA a; intro a hA
              obtain ⟨A_p, rfl⟩ : ∃ q, A = some q := (hR.sat hS).hasAddr (by omega)
              obtain ⟨y, hy⟩ : ∃ x, bs[(i : Int).toNat]? = some x := ⟨_, List.getElem?_eq_getElem (by omega)⟩
              obtain rfl : x = y := full_lo hx hy
              refine K.q1y hA (wanted_yes hA rfl rfl rfl) rfl rfl (fun w hS => (r_index (hA.ev rfl) (hA.ev rfl) T.un22 T.sz5 (by omega) (by omega))) ?_; clear hA a; intro a hA
              refine K.q1y hA (wanted_yes hA rfl rfl rfl) rfl rfl (fun w hS => (r_load (hA.ev rfl) T.fl5 (rdl (hR.sat hS) (map_at hy)))) ?_; clear hA a; intro a hA
              refine K.q1y hA (wanted_yes hA rfl rfl rfl) rfl rfl (fun w hS => (as_f (r_neq (hA.ev rfl) (hA.ev rfl)) (by omega))) ?_; clear hA a; intro a hA
              refine K.q1 hA rfl rfl rfl (fun w hS => (r_pick_t (hA.ev rfl) (hA.ev rfl))) ?_; clear hA a; intro a hA
              refine K.q1 hA rfl rfl rfl (fun w hS => (r_move (hA.ev rfl))) ?_; clear hA a; intro a hA
              refine K.q1y hA (wanted_yes hA rfl rfl rfl) rfl rfl (fun w hS => (r_move (hA.ev rfl))) ?_; clear hA a; intro a hA
              refine K.q1y hA (wanted_yes hA rfl rfl rfl) rfl rfl (fun w hS => (r_move (hA.ev rfl))) ?_; clear hA a; intro a hA
              refine K.q1y hA (wanted_yes hA rfl rfl rfl) rfl rfl (fun w hS => (r_lens (hA.ev rfl) T.un22)) ?_; clear hA a; intro a hA
              refine K.q1sy hA (wanted_yes hA rfl rfl rfl) rfl rfl (fun w hS => (r_geq (hA.ev rfl) (hA.ev rfl))) ?_ ?_
              · clear hA a; intro h100 a hA
                try (first | contradiction | (exfalso; omega) | (exfalso; simp at h100; done))
                all_goals
                 skip
                 refine K.q1y hA (wanted_yes hA rfl rfl rfl) rfl rfl (fun w hS => (r_move (hA.ev rfl))) ?_; clear hA a; intro a hA
                 refine K.q1y hA (wanted_yes hA rfl rfl rfl) rfl rfl (fun w hS => (r_move (hA.ev rfl))) ?_; clear hA a; intro a hA
                 refine K.q1y hA (wanted_yes hA rfl rfl rfl) rfl rfl (fun w hS => (r_move (hA.ev rfl))) ?_; clear hA a; intro a hA
                 obtain rfl : x = 0 := full_hi hx (by omega)
                 have hz : (0 : UInt8).toNat = 0 := rfl
                 refine K.q1y hA (wanted_yes hA rfl rfl rfl) rfl rfl (fun w hS => (r_index (hA.ev rfl) (hA.ev rfl) T.un22 T.sz5 (by omega) (by omega))) ?_; clear hA a; intro a hA
                 refine K.q1y hA (wanted_yes hA rfl rfl rfl) rfl rfl (fun w hS => (r_load (hA.ev rfl) T.fl5 (rdl hS.rd (map_at hx)))) ?_; clear hA a; intro a hA
                 refine K.q1y hA (wanted_yes hA rfl rfl rfl) rfl rfl (fun w hS => (as_f (r_neq (hA.ev rfl) (hA.ev rfl)) (by omega))) ?_; clear hA a; intro a hA
                 refine K.q1y hA (wanted_yes hA rfl rfl rfl) rfl rfl (fun w hS => (r_pick_t (hA.ev rfl) (hA.ev rfl))) ?_; clear hA a; intro a hA
                 refine K.q1 hA rfl rfl rfl (fun w hS => (r_pick_f (hA.ev rfl) (hA.ev rfl))) ?_; clear hA a; intro a hA
                 refine wpQuiet_nil ?_
                 clear hS; intro w hS
                 refine hk21 _ _ ?_
                 clear hk21 k21
                 refine wp_cond_false (hA.ev rfl) ?_
                 refine wp_skip ?_
                 refine block_normal ?_
                 refine hk20 _ _ ?_
                 clear hk20 k20
                 refine wp_region_lit ?_
                 refine go1 hA rfl rfl rfl (r_move (hA.ev rfl)) ?_; clear hA a; intro a hA
                 refine go1 hA rfl rfl rfl (r_add64 (hA.ev rfl) (hA.ev rfl) (by omega) (by omega)) ?_; clear hA a; intro a hA
                 refine go1 hA rfl rfl rfl (r_assign (hA.ev rfl)) ?_; clear hA a; intro a hA
                 refine wpList_nil ?_
                 replace hA := hA.keep (.cons (i := 0) rfl (.cons (i := 5) rfl (.cons (i := 11) rfl .nil)))
                 refine ⟨_, ?_, i + 1, hA, hS, (by omega), rfl⟩
                 omega
              · clear hA a; intro h100 a hA
                try (first | contradiction | (exfalso; omega) | (exfalso; simp at h100; done))
                all_goals
                 skip
                 refine K.q1y hA (wanted_yes hA rfl rfl rfl) rfl rfl (fun w hS => (r_move (hA.ev rfl))) ?_; clear hA a; intro a hA
                 refine qS hA (wanted_no hA rfl rfl rfl rfl) rfl rfl ?_; clear hA a; intro a hA
                 refine qS hA (wanted_no hA rfl rfl rfl rfl) rfl rfl ?_; clear hA a; intro a hA
                 refine qS hA (wanted_no hA rfl rfl rfl rfl) rfl rfl ?_; clear hA a; intro a hA
                 refine qS hA (wanted_no hA rfl rfl rfl rfl) rfl rfl ?_; clear hA a; intro a hA
                 refine qS hA (wanted_no hA rfl rfl rfl rfl) rfl rfl ?_; clear hA a; intro a hA
                 refine K.q1y hA (wanted_yes hA rfl rfl rfl) rfl rfl (fun w hS => (r_pick_f (hA.ev rfl) (hA.ev rfl))) ?_; clear hA a; intro a hA
                 refine K.q1 hA rfl rfl rfl (fun w hS => (r_pick_f (hA.ev rfl) (hA.ev rfl))) ?_; clear hA a; intro a hA
                 refine wpQuiet_nil ?_
                 clear hS; intro w hS
                 refine hk21 _ _ ?_
                 clear hk21 k21
                 refine wp_cond_false (hA.ev rfl) ?_
                 refine wp_skip ?_
                 refine block_normal ?_
                 refine hk20 _ _ ?_
                 clear hk20 k20
                 refine wp_region_lit ?_
                 refine go1 hA rfl rfl rfl (r_move (hA.ev rfl)) ?_; clear hA a; intro a hA
                 refine go1 hA rfl rfl rfl (r_add64 (hA.ev rfl) (hA.ev rfl) (by omega) (by omega)) ?_; clear hA a; intro a hA
                 refine go1 hA rfl rfl rfl (r_assign (hA.ev rfl)) ?_; clear hA a; intro a hA
                 refine wpList_nil ?_
                 replace hA := hA.keep (.cons (i := 0) rfl (.cons (i := 5) rfl (.cons (i := 11) rfl .nil)))
                 refine ⟨_, ?_, i + 1, hA, hS, (by omega), rfl⟩
                 omega
           · clear hA a; intro h84 a hA
             try (first | contradiction | (exfalso; omega) | (exfalso; simp at h84; done))
             all_goals
              skip
              refine K.q1 hA rfl rfl rfl (fun w hS => (r_move (hA.ev rfl))) ?_; clear hA a; intro a hA
              refine qS hA (wanted_no hA rfl rfl rfl rfl) rfl rfl ?_; clear hA a; intro a hA
              refine qS hA (wanted_no hA rfl rfl rfl rfl) rfl rfl ?_; clear hA a; intro a hA
              refine qS hA (wanted_no hA rfl rfl rfl rfl) rfl rfl ?_; clear hA a; intro a hA
              refine qS hA (wanted_no hA rfl rfl rfl rfl) rfl rfl ?_; clear hA a; intro a hA
              refine qS hA (wanted_no hA rfl rfl rfl rfl) rfl rfl ?_; clear hA a; intro a hA
              refine qS hA (wanted_no hA rfl rfl rfl rfl) rfl rfl ?_; clear hA a; intro a hA
              refine qS hA (wanted_no hA rfl rfl rfl rfl) rfl rfl ?_; clear hA a; intro a hA
              refine qS hA (wanted_no hA rfl rfl rfl rfl) rfl rfl ?_; clear hA a; intro a hA
              refine qS hA (wanted_no hA rfl rfl rfl rfl) rfl rfl ?_; clear hA a; intro a hA
              refine K.q1 hA rfl rfl rfl (fun w hS => (r_pick_f (hA.ev rfl) (hA.ev rfl))) ?_; clear hA a; intro a hA
              refine K.q1 hA rfl rfl rfl (fun w hS => (r_move (hA.ev rfl))) ?_; clear hA a; intro a hA
              refine K.q1y hA (wanted_yes hA rfl rfl rfl) rfl rfl (fun w hS => (r_move (hA.ev rfl))) ?_; clear hA a; intro a hA
              refine K.q1y hA (wanted_yes hA rfl rfl rfl) rfl rfl (fun w hS => (r_move (hA.ev rfl))) ?_; clear hA a; intro a hA
              refine K.q1y hA (wanted_yes hA rfl rfl rfl) rfl rfl (fun w hS => (r_lens (hA.ev rfl) T.un22)) ?_; clear hA a; intro a hA
              refine K.q1sy hA (wanted_yes hA rfl rfl rfl) rfl rfl (fun w hS => (r_geq (hA.ev rfl) (hA.ev rfl))) ?_ ?_
              · clear hA a; intro h100 a hA
                try (first | contradiction | (exfalso; omega) | (exfalso; simp at h100; done))
                all_goals
                 skip
                 refine K.q1y hA (wanted_yes hA rfl rfl rfl) rfl rfl (fun w hS => (r_move (hA.ev rfl))) ?_; clear hA a; intro a hA
                 refine K.q1y hA (wanted_yes hA rfl rfl rfl) rfl rfl (fun w hS => (r_move (hA.ev rfl))) ?_; clear hA a; intro a hA
                 refine K.q1y hA (wanted_yes hA rfl rfl rfl) rfl rfl (fun w hS => (r_move (hA.ev rfl))) ?_; clear hA a; intro a hA
                 obtain ⟨x, hx⟩ : ∃ x, (bs ++ List.replicate 9 0)[(i : Int).toNat]? = some x := ⟨_, List.getElem?_eq_getElem (by simp; omega)⟩
                 obtain rfl : x = 0 := full_hi hx (by omega)
                 have hz : (0 : UInt8).toNat = 0 := rfl
                 refine K.q1y hA (wanted_yes hA rfl rfl rfl) rfl rfl (fun w hS => (r_index (hA.ev rfl) (hA.ev rfl) T.un22 T.sz5 (by omega) (by omega))) ?_; clear hA a; intro a hA
                 refine K.q1y hA (wanted_yes hA rfl rfl rfl) rfl rfl (fun w hS => (r_load (hA.ev rfl) T.fl5 (rdl hS.rd (map_at hx)))) ?_; clear hA a; intro a hA
                 refine K.q1y hA (wanted_yes hA rfl rfl rfl) rfl rfl (fun w hS => (as_f (r_neq (hA.ev rfl) (hA.ev rfl)) (by omega))) ?_; clear hA a; intro a hA
                 refine K.q1y hA (wanted_yes hA rfl rfl rfl) rfl rfl (fun w hS => (r_pick_t (hA.ev rfl) (hA.ev rfl))) ?_; clear hA a; intro a hA
                 refine K.q1 hA rfl rfl rfl (fun w hS => (r_pick_f (hA.ev rfl) (hA.ev rfl))) ?_; clear hA a; intro a hA
                 refine wpQuiet_nil ?_
                 clear hS; intro w hS
                 refine hk21 _ _ ?_
                 clear hk21 k21
                 refine wp_cond_false (hA.ev rfl) ?_
                 refine wp_skip ?_
                 refine block_normal ?_
                 refine hk20 _ _ ?_
                 clear hk20 k20
                 refine wp_region_lit ?_
                 refine go1 hA rfl rfl rfl (r_move (hA.ev rfl)) ?_; clear hA a; intro a hA
                 refine go1 hA rfl rfl rfl (r_add64 (hA.ev rfl) (hA.ev rfl) (by omega) (by omega)) ?_; clear hA a; intro a hA
                 refine go1 hA rfl rfl rfl (r_assign (hA.ev rfl)) ?_; clear hA a; intro a hA
                 refine wpList_nil ?_
                 replace hA := hA.keep (.cons (i := 0) rfl (.cons (i := 5) rfl (.cons (i := 11) rfl .nil)))
                 refine ⟨_, ?_, i + 1, hA, hS, (by omega), rfl⟩
                 omega
              · clear hA a; intro h100 a hA
                try (first | contradiction | (exfalso; omega) | (exfalso; simp at h100; done))
                all_goals
                 skip
                 refine K.q1y hA (wanted_yes hA rfl rfl rfl) rfl rfl (fun w hS => (r_move (hA.ev rfl))) ?_; clear hA a; intro a hA
                 refine qS hA (wanted_no hA rfl rfl rfl rfl) rfl rfl ?_; clear hA a; intro a hA
                 refine qS hA (wanted_no hA rfl rfl rfl rfl) rfl rfl ?_; clear hA a; intro a hA
                 refine qS hA (wanted_no hA rfl rfl rfl rfl) rfl rfl ?_; clear hA a; intro a hA
                 refine qS hA (wanted_no hA rfl rfl rfl rfl) rfl rfl ?_; clear hA a; intro a hA
                 refine qS hA (wanted_no hA rfl rfl rfl rfl) rfl rfl ?_; clear hA a; intro a hA
                 refine K.q1y hA (wanted_yes hA rfl rfl rfl) rfl rfl (fun w hS => (r_pick_f (hA.ev rfl) (hA.ev rfl))) ?_; clear hA a; intro a hA
                 refine K.q1 hA rfl rfl rfl (fun w hS => (r_pick_f (hA.ev rfl) (hA.ev rfl))) ?_; clear hA a; intro a hA
                 refine wpQuiet_nil ?_
                 clear hS; intro w hS
                 refine hk21 _ _ ?_
                 clear hk21 k21
                 refine wp_cond_false (hA.ev rfl) ?_
                 refine wp_skip ?_
                 refine block_normal ?_
                 refine hk20 _ _ ?_
                 clear hk20 k20
                 refine wp_region_lit ?_
                 refine go1 hA rfl rfl rfl (r_move (hA.ev rfl)) ?_; clear hA a; intro a hA
                 refine go1 hA rfl rfl rfl (r_add64 (hA.ev rfl) (hA.ev rfl) (by omega) (by omega)) ?_; clear hA a; intro a hA
                 refine go1 hA rfl rfl rfl (r_assign (hA.ev rfl)) ?_; clear hA a; intro a hA
                 refine wpList_nil ?_
                 replace hA := hA.keep (.cons (i := 0) rfl (.cons (i := 5) rfl (.cons (i := 11) rfl .nil)))
                 refine ⟨_, ?_, i + 1, hA, hS, (by omega), rfl⟩
                 omega
        · clear hA a; intro h78 a hA
          try (first | contradiction | (exfalso; omega) | (exfalso; simp at h78; done))
          all_goals
           skip
           refine wpList_nil ?_
           refine hk19 _ _ ?_
           clear hk19 k19
           refine wp_cond_false (hA.ev rfl) ?_
           refine wp_exit ?_
           refine then_exit ?_; clear hk18 k18
           refine then_exit ?_
           refine block_hit ?_
           refine hk16 _ _ ?_
           clear hk16 k16
           replace hA := hA.keep .nil
           refine wp_seq_k fun k22 hk22 => ?_
           refine wp_region_lit ?_
           refine go1 hA rfl rfl rfl (r_assign (hA.ev rfl)) ?_; clear hA a; intro a hA
           refine wpList_nil ?_
           refine hk22 _ _ ?_
           clear hk22 k22
           refine wp_ret ?_
           refine end1 hA rfl rfl ?_
           exact ⟨rfl, Sat.none_ hS⟩
end Go.Proofs.Ytmnekmclpepclaa.Wk
