/- The walk of the outer reading of barrowlaw05.WireNested. Conditions: at most 10 to the 9 asks. -/
import Derived.Test.YtmnekmclpepclaaWkWire22
set_option linter.unusedVariables false
set_option linter.unusedSimpArgs false
namespace Go.Proofs.Ytmnekmclpepclaa.Wk
open Go Go.RowKit Go.Proofs.Ytmnekmclpepclaa Go.Proofs.Ytmnekmclpepclaa.K
/-- What the outer reading leaves. -/
def outL (b1 g2 i3 v4 a5 : Nat) (Ab Ac Af Ai Al : Option Addr) (cb cc cf ci cl : Nat) (bs0 cs0 : List UInt8) (first inner last : List AskD) (A2 : Option Addr) (gg : List GotD) (c2 : Nat) (A3 : Option Addr) (gi : List GotD) (c3 : Nat) (x : Int) (b : Bool) (L : List As) : List As := [pto b1 (.cells #[.slice Ab bs0.length cb, .slice Ac cs0.length cc, .slice Af first.length cf, .slice Ai inner.length ci, .slice Al last.length cl] 76), pto g2 (.cells #[.slice A2 (gg).length c2] 64), row 66 3 (.slice A2 (gg).length c2) (gg).length ((gg).flatMap encG), pto i3 (.cells #[.slice A3 (gi).length c3] 64), row 66 3 (.slice A3 (gi).length c3) (gi).length ((gi).flatMap encG), pto v4 (.cells #[.int .i64 x] 23), pto a5 (.cells #[.bool b] 4)] ++ L
theorem nestO_len {bs cs : List UInt8} {first inner last : List AskD} : (nestO bs cs first inner last).1.length ≤ first.length + last.length ∧ (nestO bs cs first inner last).2.1.length ≤ inner.length := by
  have h1 := from_len bs first 0
  have h2 := nestIn_len (bs := bs) (cs := cs) (at0 := (fromA bs 0 first).2.1) (inner := inner) (last := last)
  unfold nestO
  split
  · exact ⟨by show (fromA bs 0 first).1.length ≤ _; omega, by simp⟩
  · split <;> exact ⟨by simp only [List.length_append]; omega, h2.1⟩
set_option maxRecDepth 100000 in
set_option maxHeartbeats 1000000 in
theorem Out_calls (W w : World) (L : List As) (r q p b1 g2 i3 v4 a5 : Nat) (Ab Ac Af Ai Al : Option Addr) (cb cc cf ci cl : Nat) (bs0 cs0 : List UInt8) (first inner last : List AskD) (A : Option Addr) (c : Nat) (bs : List UInt8) (hS : Sat W w (rdc r A c bs 0 true 0 :: cellP q r :: cellE p 0 :: pto b1 (.cells #[.slice Ab bs0.length cb, .slice Ac cs0.length cc, .slice Af first.length cf, .slice Ai inner.length ci, .slice Al last.length cl] 76) :: pto g2 (.cells #[.slice none (([] : List GotD)).length 0] 64) :: row 66 3 (.slice none (([] : List GotD)).length 0) (([] : List GotD)).length ((([] : List GotD)).flatMap encG) :: pto i3 (.cells #[.slice none (([] : List GotD)).length 0] 64) :: row 66 3 (.slice none (([] : List GotD)).length 0) (([] : List GotD)).length ((([] : List GotD)).flatMap encG) :: pto v4 (.cells #[.int .i64 0] 23) :: pto a5 (.cells #[.bool false] 4) :: L)) (hb : bs.length ≤ 140737488000000) (hc : cs0.length ≤ 140737488000000) (hR : ∀ w, Sat W w L → Rd w 1 (.slice A bs.length c) bs.length (bs.map bcell)) (hRc : Rd W 1 (.slice Ac cs0.length cc) cs0.length (cs0.map bcell)) (hQf : Rd W 2 (.slice Af first.length cf) first.length (first.flatMap encA)) (hQi : Rd W 2 (.slice Ai inner.length ci) inner.length (inner.flatMap encA)) (hQl : Rd W 2 (.slice Al last.length cl) last.length (last.flatMap encA)) (hwf : ∀ x ∈ first, -9223372036854775808 ≤ x.n ∧ x.n ≤ 9223372036854775807) (hwi : ∀ x ∈ inner, -9223372036854775808 ≤ x.n ∧ x.n ≤ 9223372036854775807) (hwl : ∀ x ∈ last, -9223372036854775808 ≤ x.n ∧ x.n ≤ 9223372036854775807) (hlf : first.length ≤ 1000000000) (hli : inner.length ≤ 1000000000) (hll : last.length ≤ 1000000000) : Calls Try.prog 36 #[.pointer (some ⟨r, 0, none⟩), .pointer (some ⟨b1, 0, none⟩), .pointer (some ⟨g2, 0, none⟩), .pointer (some ⟨i3, 0, none⟩), .pointer (some ⟨v4, 0, none⟩), .pointer (some ⟨a5, 0, none⟩)] w fun e w' => ∃ (at' err : Int) (ok : Bool) (M : List As), OutR r ok e ∧ Sat W w' (rdc r A c bs at' true err :: cellP q r :: cellE p 0 :: M) ∧ (∃ (gg gi : List GotD) (A2 : Option Addr) (c2 : Nat) (A3 : Option Addr) (c3 : Nat) (x : Int) (b : Bool), M = outL b1 g2 i3 v4 a5 Ab Ac Af Ai Al cb cc cf ci cl bs0 cs0 first inner last A2 gg c2 A3 gi c3 x b L ∧ nestO bs cs0 first inner last = (gg, gi, x, b, finR ok err at' bs.length)) := by
  refine enter Try.func36 rfl rfl rfl (.cons (i := 0) rfl (.cons (i := 1) rfl (.cons (i := 2) rfl (.cons (i := 3) rfl (.cons (i := 4) rfl (.cons (i := 5) rfl .nil)))))) ?_
  intro a hA
  change Sat W w (pto r (.cells #[.slice A bs.length c, .int .i64 0, .bool true, .int .i64 0] 100) :: cellP q r :: cellE p 0 :: pto b1 (.cells #[.slice Ab bs0.length cb, .slice Ac cs0.length cc, .slice Af first.length cf, .slice Ai inner.length ci, .slice Al last.length cl] 76) :: pto g2 (.cells #[.slice none (([] : List GotD)).length 0] 64) :: row 66 3 (.slice none (([] : List GotD)).length 0) (([] : List GotD)).length ((([] : List GotD)).flatMap encG) :: pto i3 (.cells #[.slice none (([] : List GotD)).length 0] 64) :: row 66 3 (.slice none (([] : List GotD)).length 0) (([] : List GotD)).length ((([] : List GotD)).flatMap encG) :: pto v4 (.cells #[.int .i64 0] 23) :: pto a5 (.cells #[.bool false] 4) :: L) at hS
  refine wp_seq_k fun k1 hk1 => ?_
  refine wp_region_lit ?_
  refine goB hA rfl rfl hS ?_
  clear hA a hS; intro b6 w hS a hA
  refine wpList_nil ?_
  refine hk1 _ _ ?_
  clear hk1 k1
  replace hA := hA.keep (.cons (i := 1) rfl (.cons (i := 2) rfl (.cons (i := 3) rfl (.cons (i := 4) rfl (.cons (i := 5) rfl (.cons (i := 6) rfl .nil))))))
  refine wp_seq_k fun k2 hk2 => ?_
  refine wp_seq_k fun k3 hk3 => ?_
  refine wp_region_lit ?_
  refine go1 hA rfl rfl rfl (r_assign (hA.ev rfl)) ?_; clear hA a; intro a hA
  refine wpList_nil ?_
  refine hk3 _ _ ?_
  clear hk3 k3
  refine wp_block ?_
  refine wp_loop_ghost (fun (mm : Nat) a w => ∃ (A2 : Option Addr) (c2 at_ i : Nat) (gs : List GotD), Ag a 31 [(1, .pointer (some ⟨b1, 0, none⟩)), (2, .pointer (some ⟨g2, 0, none⟩)), (3, .pointer (some ⟨i3, 0, none⟩)), (4, .pointer (some ⟨v4, 0, none⟩)), (5, .pointer (some ⟨a5, 0, none⟩)), (6, .pointer (some ⟨b6, 0, none⟩)), (7, .int .i64 ((i : Nat) : Int))] ∧ Sat W w (pto r (.cells #[.slice A bs.length c, .int .i64 (at_ : Nat), .bool true, .int .i64 0] 100) :: cellP q r :: cellE p 0 :: pto b6 (.cells #[.pointer (some ⟨r, 0, none⟩)] 60) :: pto b1 (.cells #[.slice Ab bs0.length cb, .slice Ac cs0.length cc, .slice Af first.length cf, .slice Ai inner.length ci, .slice Al last.length cl] 76) :: pto g2 (.cells #[.slice A2 (gs).length c2] 64) :: row 66 3 (.slice A2 (gs).length c2) (gs).length ((gs).flatMap encG) :: pto i3 (.cells #[.slice none (([] : List GotD)).length 0] 64) :: row 66 3 (.slice none (([] : List GotD)).length 0) (([] : List GotD)).length ((([] : List GotD)).flatMap encG) :: pto v4 (.cells #[.int .i64 0] 23) :: pto a5 (.cells #[.bool false] 4) :: L) ∧ (i ≤ first.length) ∧ (at_ ≤ bs.length) ∧ (gs.length ≤ i) ∧ (fromA bs 0 first = app gs (fromA bs at_ (first.drop i))) ∧ mm = first.length - i) first.length ?_ ?_
  · replace hA := hA.keep (.cons (i := 1) rfl (.cons (i := 2) rfl (.cons (i := 3) rfl (.cons (i := 4) rfl (.cons (i := 5) rfl (.cons (i := 6) rfl (.cons (i := 7) rfl .nil)))))))
    exact ⟨none, 0, 0, 0, [], hA, (((hS.p 3).p 3).p 3), (by omega), (by omega), (by exact Nat.le_refl 0), (by rfl), by omega⟩
  intro m a w hI
  clear hS hA; obtain ⟨A2, c2, at_, i, gs, hA, hS, hi, hat1, hgl, hF, rfl⟩ := hI
  refine wp_seq_k fun k4 hk4 => ?_
  refine wp_seq_k fun k5 hk5 => ?_
  refine wp_region_lit ?_
  refine go1 hA rfl rfl rfl (r_move (hA.ev rfl)) ?_; clear hA a; intro a hA
  refine go1 hA rfl rfl rfl (r_field (hA.ev rfl) T.fo76_2) ?_; clear hA a; intro a hA
  refine go1 hA rfl rfl rfl (r_load (hA.ev rfl) T.fl63 (by first | exact hS.cell rfl | exact (hS.p 1).cell rfl | exact (hS.p 2).cell rfl | exact (hS.p 3).cell rfl | exact (hS.p 4).cell rfl | exact (hS.p 5).cell rfl | exact (hS.p 6).cell rfl | exact (hS.p 7).cell rfl | exact (hS.p 8).cell rfl | exact (hS.p 9).cell rfl | exact (hS.p 10).cell rfl | exact (hS.p 11).cell rfl | exact (hS.p 12).cell rfl)) ?_; clear hA a; intro a hA
  refine go1 hA rfl rfl rfl (r_lens (hA.ev rfl) T.un63) ?_; clear hA a; intro a hA
  refine go1s hA rfl rfl rfl (r_lss (hA.ev rfl) (hA.ev rfl)) ?_ ?_
  · clear hA a; intro h12 a hA
    try (first | contradiction | (exfalso; omega) | (exfalso; simp at h12; done))
    all_goals
     skip
     refine wpList_nil ?_
     refine hk5 _ _ ?_
     clear hk5 k5
     refine wp_cond_true (hA.ev rfl) ?_
     refine wp_skip ?_
     refine hk4 _ _ ?_
     clear hk4 k4
     refine wp_seq_k fun k6 hk6 => ?_
     refine wp_block ?_
     refine xEnter [9, 10] (fun w' => ∃ M : List As, Sat W w' (M ++ cellP q r :: cellE p 0 :: pto b6 (.cells #[.pointer (some ⟨r, 0, none⟩)] 60) :: pto b1 (.cells #[.slice Ab bs0.length cb, .slice Ac cs0.length cc, .slice Af first.length cf, .slice Ai inner.length ci, .slice Al last.length cl] 76) :: pto g2 (.cells #[.slice A2 (gs).length c2] 64) :: row 66 3 (.slice A2 (gs).length c2) (gs).length ((gs).flatMap encG) :: pto i3 (.cells #[.slice none (([] : List GotD)).length 0] 64) :: row 66 3 (.slice none (([] : List GotD)).length 0) (([] : List GotD)).length ((([] : List GotD)).flatMap encG) :: pto v4 (.cells #[.int .i64 0] 23) :: pto a5 (.cells #[.bool false] 4) :: L)) (by kernel_rfl) ?_
     replace hS := hS.drew
     refine K.x1 0 hA (pok_block (pok_then (pok_then (pok_block (pok_then pok_body))))) rfl rfl rfl rfl (by kernel_rfl) (by kernel_rfl) (by kernel_rfl) (by kernel_rfl) (by kernel_rfl) (by first | exact ⟨[_], hS⟩ | exact ⟨[_, _], hS⟩) (fun w hT => let ⟨_, hM⟩ := hT; have hS := hM.past; (r_load (hA.ev rfl) T.fl64 (by first | exact hS.cell rfl | exact (hS.p 1).cell rfl | exact (hS.p 2).cell rfl | exact (hS.p 3).cell rfl | exact (hS.p 4).cell rfl | exact (hS.p 5).cell rfl | exact (hS.p 6).cell rfl | exact (hS.p 7).cell rfl | exact (hS.p 8).cell rfl | exact (hS.p 9).cell rfl | exact (hS.p 10).cell rfl | exact (hS.p 11).cell rfl | exact (hS.p 12).cell rfl))) ?_; clear hA a; intro a hA
     refine K.x1 1 hA (pok_block (pok_then (pok_then (pok_block (pok_then pok_body))))) rfl rfl rfl rfl (by kernel_rfl) (by kernel_rfl) (by kernel_rfl) (by kernel_rfl) (by kernel_rfl) (by first | exact ⟨[_], hS⟩ | exact ⟨[_, _], hS⟩) (fun w hT => let ⟨_, hM⟩ := hT; have hS := hM.past; (r_load (hA.ev rfl) T.fl60 (by first | exact hS.cell rfl | exact (hS.p 1).cell rfl | exact (hS.p 2).cell rfl | exact (hS.p 3).cell rfl | exact (hS.p 4).cell rfl | exact (hS.p 5).cell rfl | exact (hS.p 6).cell rfl | exact (hS.p 7).cell rfl | exact (hS.p 8).cell rfl | exact (hS.p 9).cell rfl | exact (hS.p 10).cell rfl | exact (hS.p 11).cell rfl | exact (hS.p 12).cell rfl))) ?_; clear hA a; intro a hA
     refine K.p1 2 hA (pok_block (pok_then (pok_then (pok_block (pok_then pok_body))))) rfl rfl rfl rfl (by kernel_rfl) (by kernel_rfl) (by kernel_rfl) (fun w => (r_field (hA.ev rfl) T.fo76_2)) ?_; clear hA a; intro a hA
     refine K.x1 3 hA (pok_block (pok_then (pok_then (pok_block (pok_then pok_body))))) rfl rfl rfl rfl (by kernel_rfl) (by kernel_rfl) (by kernel_rfl) (by kernel_rfl) (by kernel_rfl) (by first | exact ⟨[_], hS⟩ | exact ⟨[_, _], hS⟩) (fun w hT => let ⟨_, hM⟩ := hT; have hS := hM.past; (r_load (hA.ev rfl) T.fl63 (by first | exact hS.cell rfl | exact (hS.p 1).cell rfl | exact (hS.p 2).cell rfl | exact (hS.p 3).cell rfl | exact (hS.p 4).cell rfl | exact (hS.p 5).cell rfl | exact (hS.p 6).cell rfl | exact (hS.p 7).cell rfl | exact (hS.p 8).cell rfl | exact (hS.p 9).cell rfl | exact (hS.p 10).cell rfl | exact (hS.p 11).cell rfl | exact (hS.p 12).cell rfl))) ?_; clear hA a; intro a hA
     refine K.p1 4 hA (pok_block (pok_then (pok_then (pok_block (pok_then pok_body))))) rfl rfl rfl rfl (by kernel_rfl) (by kernel_rfl) (by kernel_rfl) (fun w => (r_move (hA.ev rfl))) ?_; clear hA a; intro a hA
     obtain ⟨Af_p, rfl⟩ : ∃ q, Af = some q := (hQf.sat hS).hasAddr (by omega)
     obtain ⟨x, hx⟩ : ∃ x, first[(i : Int).toNat]? = some x := ⟨_, List.getElem?_eq_getElem (by omega)⟩
     have hx' : first[i]? = some x := by rw [← hx]; congr 1
     obtain ⟨hw0, hw1⟩ := hwf x (List.mem_of_getElem? hx)
     refine K.p1 5 hA (pok_block (pok_then (pok_then (pok_block (pok_then pok_body))))) rfl rfl rfl rfl (by kernel_rfl) (by kernel_rfl) (by kernel_rfl) (fun w => (r_index (hA.ev rfl) (hA.ev rfl) T.un63 T.sz69 (by omega) (by omega))) ?_; clear hA a; intro a hA
     refine K.x1 6 hA (pok_block (pok_then (pok_then (pok_block (pok_then pok_body))))) rfl rfl rfl rfl (by kernel_rfl) (by kernel_rfl) (by kernel_rfl) (by kernel_rfl) (by kernel_rfl) (by first | exact ⟨[_], hS⟩ | exact ⟨[_, _], hS⟩) (fun w hT => let ⟨_, hM⟩ := hT; have hS := hM.past; (r_loadS (cs := encA x) (hA.ev rfl) T.ag69 T.sz69 (fun j u e => rdl2 (hQf.sat hS) (ask_at hx j u e)))) ?_; clear hA a; intro a hA
     refine xOne 7 (by kernel_rfl) ?_
     refine eFP hA rfl rfl T.en31 rfl (askS_calls _ _ _ r A c bs at_ x hS (by omega) (by omega) (fun w h => hR w h.drop.drop.drop.drop.drop.drop.drop.drop.drop.drop) hw0 hw1) ?_
     rintro e w (⟨h0, rfl, hS⟩ | ⟨h0, at', err, hS, (⟨he, hk8, older, rfl, ho⟩ | ⟨he, hat', h8, hk8, tx, vx, htx, older, rfl, ho⟩)⟩)
     rotate_left 1
     · skip
       refine .inr ⟨_, rfl, ?_⟩
       refine block_panic ?_
       refine then_panic ?_; clear hk6 k6
       refine then_panic ?_
       refine block_panic ?_
       refine then_panic ?_; clear hk2 k2
       refine endP hA ?_
       rw [he] at hS; exact ⟨_, _, false, _, .inr ⟨rfl, .inl ⟨older, rfl, ho⟩⟩, (hS.p 3).drop, gs, [], A2, c2, none, 0, 0, false, rfl, by rw [nestO_err (from_stop hF hx' h0) h0, finA rfl h0]⟩
     · skip
       refine .inr ⟨_, rfl, ?_⟩
       refine block_panic ?_
       refine then_panic ?_; clear hk6 k6
       refine then_panic ?_
       refine block_panic ?_
       refine then_panic ?_; clear hk2 k2
       refine endP hA ?_
       subst he; exact ⟨_, _, false, _, .inr ⟨rfl, .inr ⟨tx, vx, htx, older, rfl, ho⟩⟩, (hS.p 3).drop, gs, [], A2, c2, none, 0, 0, false, rfl, by rw [nestO_err (from_stop hF hx' h0) h0, h8, finB rfl]⟩
     have hst := from_step hF hx' h0
     have hpl := one_place (by omega) h0
     refine .inl ⟨_, rfl, ?_⟩; clear hA a; intro a hA
     refine ⟨.inr fun _ => (by first | exact ⟨[_], hS⟩ | exact ⟨[_, _], hS⟩), ?_⟩
     refine xOne 8 (by kernel_rfl) ?_
     refine eLS (vss := [[_, _, _]]) hA rfl rfl rfl T.un64 T.el66 rfl rfl rfl (by simp) rfl hS ?_
     clear hA a hS; intro A23 w hS a hA
     refine ⟨.inr fun _ => (by first | exact ⟨[_], hS⟩ | exact ⟨[_, _], hS⟩), ?_⟩
     refine xOne 9 (by kernel_rfl) ?_
     refine eA hA rfl rfl rfl rfl T.un64 T.el66 rfl (hS.p 7) (hS.rd.src T.un64 (by simp [encG, Value.oneCell'])) (by omega) (by omega) ?_
     clear hA a hS; intro A24 c24 w hc24 hS a hA
     have ge24 : (gs).length + 1 = (gs ++ [(oneA bs at_ x).1]).length := by first | (simp; done) | (simp; omega)
     change Sat W w (row 66 3 (.slice A24 ((gs).length + 1) c24) ((gs).length + 1) ((gs).flatMap encG ++ encG (oneA bs at_ x).1) :: _) at hS
     rw [ge24, got_snoc] at hS
     rw [ge24] at hA
     refine ⟨.inl rfl, ?_⟩
     refine xOne 10 (by kernel_rfl) ?_
     first | refine eW hA rfl rfl rfl T.fl64 T.sz64 rfl hS rfl ?_ | refine eW hA rfl rfl rfl T.fl64 T.sz64 rfl (hS.p 1) rfl ?_ | refine eW hA rfl rfl rfl T.fl64 T.sz64 rfl (hS.p 2) rfl ?_ | refine eW hA rfl rfl rfl T.fl64 T.sz64 rfl (hS.p 3) rfl ?_ | refine eW hA rfl rfl rfl T.fl64 T.sz64 rfl (hS.p 4) rfl ?_ | refine eW hA rfl rfl rfl T.fl64 T.sz64 rfl (hS.p 5) rfl ?_ | refine eW hA rfl rfl rfl T.fl64 T.sz64 rfl (hS.p 6) rfl ?_ | refine eW hA rfl rfl rfl T.fl64 T.sz64 rfl (hS.p 7) rfl ?_ | refine eW hA rfl rfl rfl T.fl64 T.sz64 rfl (hS.p 8) rfl ?_ | refine eW hA rfl rfl rfl T.fl64 T.sz64 rfl (hS.p 9) rfl ?_ | refine eW hA rfl rfl rfl T.fl64 T.sz64 rfl (hS.p 10) rfl ?_ | refine eW hA rfl rfl rfl T.fl64 T.sz64 rfl (hS.p 11) rfl ?_ | refine eW hA rfl rfl rfl T.fl64 T.sz64 rfl (hS.p 12) rfl ?_
     clear hS; intro w hS
     refine ⟨.inl rfl, ?_⟩
     refine wpAnyX_done (by kernel_rfl) ?_ _
     refine block_normal ?_
     refine hk6 _ _ ?_
     clear hk6 k6
     refine wp_region_lit ?_
     refine go1 hA rfl rfl rfl (r_move (hA.ev rfl)) ?_; clear hA a; intro a hA
     refine go1 hA rfl rfl rfl (r_add64 (hA.ev rfl) (hA.ev rfl) (by omega) (by omega)) ?_; clear hA a; intro a hA
     refine go1 hA rfl rfl rfl (r_assign (hA.ev rfl)) ?_; clear hA a; intro a hA
     refine wpList_nil ?_
     replace hA := hA.keep (.cons (i := 1) rfl (.cons (i := 2) rfl (.cons (i := 3) rfl (.cons (i := 4) rfl (.cons (i := 5) rfl (.cons (i := 6) rfl (.cons (i := 7) rfl .nil)))))))
     refine ⟨_, ?_, _, _, (oneA bs at_ x).2.1, i + 1, gs ++ [(oneA bs at_ x).1], hA, ((((((((((((hS.p 11).p 11).p 11).p 11).p 5).p 5).p 11).p 11).p 11).p 11).p 11).p 11).drop, (by omega), (by omega), (by simp; omega), (by exact hst), rfl⟩
     omega
  · clear hA a; intro h12 a hA
    try (first | contradiction | (exfalso; omega) | (exfalso; simp at h12; done))
    all_goals
     skip
     refine wpList_nil ?_
     refine hk5 _ _ ?_
     clear hk5 k5
     refine wp_cond_false (hA.ev rfl) ?_
     refine wp_exit ?_
     refine then_exit ?_; clear hk4 k4
     refine then_exit ?_
     refine block_hit ?_
     refine hk2 _ _ ?_
     clear hk2 k2
     replace hA := hA.keep (.cons (i := 1) rfl (.cons (i := 2) rfl (.cons (i := 3) rfl (.cons (i := 4) rfl (.cons (i := 5) rfl (.cons (i := 6) rfl .nil))))))
     refine wp_seq_k fun k7 hk7 => ?_
     refine wp_region_lit ?_
     have hov := from_over hF (by omega)
     refine goL0 hA rfl T.un22 T.el5 hS ?_
     clear hA a hS; intro A25 w hS a hA
     refine go1 hA rfl rfl rfl (r_field (hA.ev rfl) T.fo76_1) ?_; clear hA a; intro a hA
     refine go1 hA rfl rfl rfl (r_load (hA.ev rfl) T.fl22 (by first | exact hS.cell rfl | exact (hS.p 1).cell rfl | exact (hS.p 2).cell rfl | exact (hS.p 3).cell rfl | exact (hS.p 4).cell rfl | exact (hS.p 5).cell rfl | exact (hS.p 6).cell rfl | exact (hS.p 7).cell rfl | exact (hS.p 8).cell rfl | exact (hS.p 9).cell rfl | exact (hS.p 10).cell rfl | exact (hS.p 11).cell rfl | exact (hS.p 12).cell rfl)) ?_; clear hA a; intro a hA
     refine goA' hA rfl rfl rfl T.un22 T.el5 rfl hS ((hRc.sat hS).src T.un22 (bcells_one _)) (by omega) (by omega) ?_
     clear hA a hS; intro A28 c28 w hc28 hS a hA
     simp only [Nat.zero_add, List.nil_append] at hS hA
     refine go1 hA rfl rfl rfl (r_mkF (hA.evl rfl)) ?_; clear hA a; intro a hA
     refine goFP hA rfl T.en26 rfl (ReadN_calls _ _ _ A28 c28 cs0 r (fun _ at' err ok M => ∃ (gi more gg : List GotD) (A2 : Option Addr) (c2 : Nat) (A3 : Option Addr) (c3 nx : Nat), gg = gs ++ more ∧ M = inL b1 i3 g2 b6 r Ab Ac Af Ai Al cb cc cf ci cl bs0 cs0 first inner last A2 gi c2 A3 gg c3 (rdc r A c bs (nx : Nat) true 0 :: (cellP q r :: cellE p 0 :: pto v4 (.cells #[.int .i64 0] 23) :: pto a5 (.cells #[.bool false] 4) :: row 5 1 (.slice A28 cs0.length c28) cs0.length (cs0.map bcell) :: L)) ∧ nestIn bs cs0 at_ inner last = (gi, more, nx, finR ok err at' cs0.length, 0) ∧ nx ≤ bs.length) (fun A' n' c' at2 err2 M => A' = A ∧ n' = bs.length ∧ c' = c ∧ ∃ (gi more gg : List GotD) (A2 : Option Addr) (c2 : Nat) (A3 : Option Addr) (c3 : Nat), gg = gs ++ more ∧ M = inL b1 i3 g2 b6 r Ab Ac Af Ai Al cb cc cf ci cl bs0 cs0 first inner last A2 gi c2 A3 gg c3 (cellP q r :: cellE p 0 :: pto v4 (.cells #[.int .i64 0] 23) :: pto a5 (.cells #[.bool false] 4) :: row 5 1 (.slice A28 cs0.length c28) cs0.length (cs0.map bcell) :: L) ∧ nestIn bs cs0 at_ inner last = (gi, more, 0, 0, err2) ∧ err2 ≠ 0) 37 [.pointer (some ⟨b1, 0, none⟩), .pointer (some ⟨i3, 0, none⟩), .pointer (some ⟨g2, 0, none⟩), .pointer (some ⟨b6, 0, none⟩)] (((((((((((hS.p 11).p 11).p 5).p 5).p 5).p 6).p 9).p 9).p 11).p 11).p 11) (by omega) T.en37 (fun w q1 q2 q3 hS => In_calls _ _ _ q1 q2 q3 b1 i3 g2 b6 r Ab Ac Af Ai Al cb cc cf ci cl bs0 cs0 first inner last A28 c28 cs0 A c bs A2 c2 gs at_ hS (by omega) (by omega) hat1 (fun w h => hR w h.drop.drop.drop.drop.drop) (fun w h => (h.p 4).rd) hQi hQl hwi hwl (by omega) (by omega) (by omega))) ?_
     rintro e w (⟨q1, q2, q3, atq, errq, okq, M, rfl, hS, gi, more, gg, A4, c4, A5, c5, nx, rfl, rfl, hN, hnx⟩ | ⟨q1, q2, q3, atq, errq, A', n', c', at2, err2, M, ⟨older, rfl, ho⟩, hS, hA1, hA2, hA3, gi, more, gg, A4, c4, A5, c5, rfl, rfl, hN, he2⟩)
     · skip
       obtain ⟨x, hx⟩ : ∃ x, x = finR okq errq atq cs0.length := ⟨_, rfl⟩
       rw [← hx] at hN ⊢
       replace hS := hS.drop.drop.drop
       change Sat W w (pto b1 (.cells #[.slice Ab bs0.length cb, .slice Ac cs0.length cc, .slice Af first.length cf, .slice Ai inner.length ci, .slice Al last.length cl] 76) :: pto i3 (.cells #[.slice A4 (gi).length c4] 64) :: row 66 3 (.slice A4 (gi).length c4) (gi).length ((gi).flatMap encG) :: pto g2 (.cells #[.slice A5 ((gs ++ more)).length c5] 64) :: row 66 3 (.slice A5 ((gs ++ more)).length c5) ((gs ++ more)).length (((gs ++ more)).flatMap encG) :: pto b6 (.cells #[.pointer (some ⟨r, 0, none⟩)] 60) :: pto r (.cells #[.slice A bs.length c, .int .i64 (nx : Nat), .bool true, .int .i64 0] 100) :: cellP q r :: cellE p 0 :: pto v4 (.cells #[.int .i64 0] 23) :: pto a5 (.cells #[.bool false] 4) :: row 5 1 (.slice A28 cs0.length c28) cs0.length (cs0.map bcell) :: L) at hS
       refine .inl ⟨_, rfl, ?_⟩; clear hA a; intro a hA
       first | refine goW hA rfl rfl T.fl23 T.sz23 rfl hS rfl ?_ | refine goW hA rfl rfl T.fl23 T.sz23 rfl (hS.p 1) rfl ?_ | refine goW hA rfl rfl T.fl23 T.sz23 rfl (hS.p 2) rfl ?_ | refine goW hA rfl rfl T.fl23 T.sz23 rfl (hS.p 3) rfl ?_ | refine goW hA rfl rfl T.fl23 T.sz23 rfl (hS.p 4) rfl ?_ | refine goW hA rfl rfl T.fl23 T.sz23 rfl (hS.p 5) rfl ?_ | refine goW hA rfl rfl T.fl23 T.sz23 rfl (hS.p 6) rfl ?_ | refine goW hA rfl rfl T.fl23 T.sz23 rfl (hS.p 7) rfl ?_ | refine goW hA rfl rfl T.fl23 T.sz23 rfl (hS.p 8) rfl ?_ | refine goW hA rfl rfl T.fl23 T.sz23 rfl (hS.p 9) rfl ?_ | refine goW hA rfl rfl T.fl23 T.sz23 rfl (hS.p 10) rfl ?_ | refine goW hA rfl rfl T.fl23 T.sz23 rfl (hS.p 11) rfl ?_ | refine goW hA rfl rfl T.fl23 T.sz23 rfl (hS.p 12) rfl ?_
       clear hS; intro w hS
       refine wpList_nil ?_
       refine hk7 _ _ ?_
       clear hk7 k7
       replace hA := hA.keep (.cons (i := 5) rfl .nil)
       refine wp_region_lit ?_
       first | refine goW hA rfl rfl T.fl4 T.sz4 rfl hS rfl ?_ | refine goW hA rfl rfl T.fl4 T.sz4 rfl (hS.p 1) rfl ?_ | refine goW hA rfl rfl T.fl4 T.sz4 rfl (hS.p 2) rfl ?_ | refine goW hA rfl rfl T.fl4 T.sz4 rfl (hS.p 3) rfl ?_ | refine goW hA rfl rfl T.fl4 T.sz4 rfl (hS.p 4) rfl ?_ | refine goW hA rfl rfl T.fl4 T.sz4 rfl (hS.p 5) rfl ?_ | refine goW hA rfl rfl T.fl4 T.sz4 rfl (hS.p 6) rfl ?_ | refine goW hA rfl rfl T.fl4 T.sz4 rfl (hS.p 7) rfl ?_ | refine goW hA rfl rfl T.fl4 T.sz4 rfl (hS.p 8) rfl ?_ | refine goW hA rfl rfl T.fl4 T.sz4 rfl (hS.p 9) rfl ?_ | refine goW hA rfl rfl T.fl4 T.sz4 rfl (hS.p 10) rfl ?_ | refine goW hA rfl rfl T.fl4 T.sz4 rfl (hS.p 11) rfl ?_ | refine goW hA rfl rfl T.fl4 T.sz4 rfl (hS.p 12) rfl ?_
       clear hS; intro w hS
       refine wpList_nil ?_
       refine end_n (e := .ret) ?_
       refine end0 hA rfl  ?_
       exact ⟨_, 0, true, _, .inl ⟨rfl, rfl⟩, (((((((((((hS.p 1).p 4).p 4).p 6).p 6).p 6).p 10).p 10).p 10).p 11).p 11).drop.drop, gs ++ more, gi, _, c5, _, c4, x, true, rfl, by rw [nestO_ok hov hN, finC]; simp⟩
     · skip
       refine .inr ⟨_, rfl, ?_⟩
       refine then_panic ?_; clear hk7 k7
       refine endP hA ?_
       rw [hA1, hA2, hA3] at hS; replace hS := hS.drop.drop.drop; change Sat W w (pto r (.cells #[.slice A bs.length c, .int .i64 at2, .bool true, .int .i64 err2] 100) :: pto b1 (.cells #[.slice Ab bs0.length cb, .slice Ac cs0.length cc, .slice Af first.length cf, .slice Ai inner.length ci, .slice Al last.length cl] 76) :: pto i3 (.cells #[.slice A4 (gi).length c4] 64) :: row 66 3 (.slice A4 (gi).length c4) (gi).length ((gi).flatMap encG) :: pto g2 (.cells #[.slice A5 ((gs ++ more)).length c5] 64) :: row 66 3 (.slice A5 ((gs ++ more)).length c5) ((gs ++ more)).length (((gs ++ more)).flatMap encG) :: pto b6 (.cells #[.pointer (some ⟨r, 0, none⟩)] 60) :: cellP q r :: cellE p 0 :: pto v4 (.cells #[.int .i64 0] 23) :: pto a5 (.cells #[.bool false] 4) :: row 5 1 (.slice A28 cs0.length c28) cs0.length (cs0.map bcell) :: L) at hS; exact ⟨_, _, false, _, .inr ⟨rfl, .inl ⟨_, rfl, ho⟩⟩, ((((((((((((hS.p 10).p 10).p 5).p 5).p 7).p 7).p 7).p 10).p 10).p 9).p 11).p 11).drop.drop, gs ++ more, gi, _, c5, _, c4, 0, false, rfl, by rw [nestO_out hov hN he2, finA rfl he2]⟩
end Go.Proofs.Ytmnekmclpepclaa.Wk
