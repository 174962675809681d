/- The walk of the inner reading of barrowlaw05.WireNested. Conditions: at most 10 to the 9 asks. -/
import Derived.Test.YtmnekmclpepclaaWkWire21
set_option linter.unusedVariables false
set_option linter.unusedSimpArgs false
namespace Go.Proofs.Ytmnekmclpepclaa.Wk
open Go Go.RowKit Go.Proofs.Ytmnekmclpepclaa Go.Proofs.Ytmnekmclpepclaa.K
/-- What the inner reading leaves. -/
def inL (b1 b2 b3 b4 r : Nat) (Ab Ac Af Ai Al : Option Addr) (cb cc cf ci cl : Nat) (bs0 cs0 : List UInt8) (first inner last : List AskD) (A2 : Option Addr) (gi : List GotD) (c2 : Nat) (A3 : Option Addr) (gg : List GotD) (c3 : Nat) (L : List As) : List As := [pto b1 (.cells #[.slice Ab bs0.length cb, .slice Ac cs0.length cc, .slice Af first.length cf, .slice Ai inner.length ci, .slice Al last.length cl] 76), pto b2 (.cells #[.slice A2 (gi).length c2] 64), row 66 3 (.slice A2 (gi).length c2) (gi).length ((gi).flatMap encG), pto b3 (.cells #[.slice A3 (gg).length c3] 64), row 66 3 (.slice A3 (gg).length c3) (gg).length ((gg).flatMap encG), pto b4 (.cells #[.pointer (some ⟨r, 0, none⟩)] 60)] ++ L
theorem finA {ok : Bool} {err at' : Int} {n : Nat} (h : ok = false) (h0 : err ≠ 0) : finR ok err at' n = err := by rw [finR_f h, if_pos h0]
theorem finB {ok : Bool} {at' : Int} {n : Nat} (h : ok = false) : finR ok 0 at' n = 8 := by rw [finR_f h, if_neg (by decide)]
theorem finC {at' : Int} {n : Nat} : finR true 0 at' n = if at' < n then 52 else 0 := by rw [finR_t rfl, if_neg (by decide)]
set_option maxRecDepth 100000 in
set_option maxHeartbeats 1000000 in
theorem In_calls (W w : World) (L : List As) (q q' p' b1 b2 b3 b4 r : Nat) (Ab Ac Af Ai Al : Option Addr) (cb cc cf ci cl : Nat) (bs0 cs0 : List UInt8) (first inner last : List AskD) (Aq : Option Addr) (cq : Nat) (cs : List UInt8) (A : Option Addr) (c : Nat) (bs : List UInt8) (A3 : Option Addr) (c3 : Nat) (go : List GotD) (at0 : Nat) (hS : Sat W w (rdc q Aq cq cs 0 true 0 :: cellP q' q :: cellE p' 0 :: pto b1 (.cells #[.slice Ab bs0.length cb, .slice Ac cs0.length cc, .slice Af first.length cf, .slice Ai inner.length ci, .slice Al last.length cl] 76) :: pto b2 (.cells #[.slice none (([] : List GotD)).length 0] 64) :: row 66 3 (.slice none (([] : List GotD)).length 0) (([] : List GotD)).length ((([] : List GotD)).flatMap encG) :: pto b3 (.cells #[.slice A3 (go).length c3] 64) :: row 66 3 (.slice A3 (go).length c3) (go).length ((go).flatMap encG) :: pto b4 (.cells #[.pointer (some ⟨r, 0, none⟩)] 60) :: rdc r A c bs at0 true 0 :: L)) (hb : bs.length ≤ 140737488355328) (hc : cs.length ≤ 140737488355328) (hat0 : at0 ≤ bs.length) (hR : ∀ w, Sat W w L → Rd w 1 (.slice A bs.length c) bs.length (bs.map bcell)) (hRc : ∀ w, Sat W w L → Rd w 1 (.slice Aq cs.length cq) cs.length (cs.map bcell)) (hQi : Rd W 2 (.slice Ai inner.length ci) inner.length (inner.flatMap encA)) (hQl : Rd W 2 (.slice Al last.length cl) last.length (last.flatMap encA)) (hwi : ∀ x ∈ inner, -9223372036854775808 ≤ x.n ∧ x.n ≤ 9223372036854775807) (hwl : ∀ x ∈ last, -9223372036854775808 ≤ x.n ∧ x.n ≤ 9223372036854775807) (hli : inner.length ≤ 1000000000) (hll : last.length ≤ 1000000000) (hgo : go.length ≤ 1000000000) : Calls Try.prog 37 #[.pointer (some ⟨q, 0, none⟩), .pointer (some ⟨b1, 0, none⟩), .pointer (some ⟨b2, 0, none⟩), .pointer (some ⟨b3, 0, none⟩), .pointer (some ⟨b4, 0, none⟩)] w fun e w' => (∃ (at' err : Int) (ok : Bool) (M : List As), OutR q ok e ∧ Sat W w' (rdc q Aq cq cs at' true err :: cellP q' q :: cellE p' 0 :: M) ∧ (∃ (gi more gg : List GotD) (A2 : Option Addr) (c2 : Nat) (A3 : Option Addr) (c3 nx : Nat), gg = go ++ more ∧ M = inL b1 b2 b3 b4 r Ab Ac Af Ai Al cb cc cf ci cl bs0 cs0 first inner last A2 gi c2 A3 gg c3 (rdc r A c bs (nx : Nat) true 0 :: L) ∧ nestIn bs cs at0 inner last = (gi, more, nx, finR ok err at' cs.length, 0) ∧ nx ≤ bs.length)) ∨ (∃ (at' err : Int) (A' : Option Addr) (n' c' : Nat) (at2 err2 : Int) (M : List As), Pan (GV r) e ∧ Sat W w' (rdc q Aq cq cs at' true err :: cellP q' q :: cellE p' 0 :: rd2 r A' n' c' at2 err2 :: M) ∧ (A' = A ∧ n' = bs.length ∧ c' = c ∧ ∃ (gi more gg : List GotD) (A2 : Option Addr) (c2 : Nat) (A3 : Option Addr) (c3 : Nat), gg = go ++ more ∧ M = inL b1 b2 b3 b4 r Ab Ac Af Ai Al cb cc cf ci cl bs0 cs0 first inner last A2 gi c2 A3 gg c3 L ∧ nestIn bs cs at0 inner last = (gi, more, 0, 0, err2) ∧ err2 ≠ 0)) := by
  refine enter Try.func37 rfl rfl rfl (.cons (i := 0) rfl (.cons (i := 1) rfl (.cons (i := 2) rfl (.cons (i := 3) rfl (.cons (i := 4) rfl .nil))))) ?_
  intro a hA
  change Sat W w (pto q (.cells #[.slice Aq cs.length cq, .int .i64 0, .bool true, .int .i64 0] 100) :: cellP q' q :: cellE p' 0 :: pto b1 (.cells #[.slice Ab bs0.length cb, .slice Ac cs0.length cc, .slice Af first.length cf, .slice Ai inner.length ci, .slice Al last.length cl] 76) :: pto b2 (.cells #[.slice none (([] : List GotD)).length 0] 64) :: row 66 3 (.slice none (([] : List GotD)).length 0) (([] : List GotD)).length ((([] : List GotD)).flatMap encG) :: pto b3 (.cells #[.slice A3 (go).length c3] 64) :: row 66 3 (.slice A3 (go).length c3) (go).length ((go).flatMap encG) :: pto b4 (.cells #[.pointer (some ⟨r, 0, none⟩)] 60) :: pto r (.cells #[.slice A bs.length c, .int .i64 at0, .bool true, .int .i64 0] 100) :: L) at hS
  refine wp_seq_k fun k1 hk1 => ?_
  refine wp_seq_k fun k2 hk2 => ?_
  refine wp_region_lit ?_
  refine go1 hA rfl rfl rfl (r_assign (hA.ev rfl)) ?_; clear hA a; intro a hA
  refine wpList_nil ?_
  refine hk2 _ _ ?_
  clear hk2 k2
  refine wp_block ?_
  refine wp_loop_ghost (fun (mm : Nat) a w => ∃ (A2 : Option Addr) (c2 at_ i : Nat) (gs : List GotD), Ag a 42 [(0, .pointer (some ⟨q, 0, none⟩)), (1, .pointer (some ⟨b1, 0, none⟩)), (2, .pointer (some ⟨b2, 0, none⟩)), (3, .pointer (some ⟨b3, 0, none⟩)), (4, .pointer (some ⟨b4, 0, none⟩)), (6, .int .i64 ((i : Nat) : Int))] ∧ Sat W w (pto q (.cells #[.slice Aq cs.length cq, .int .i64 (at_ : Nat), .bool true, .int .i64 0] 100) :: cellP q' q :: cellE p' 0 :: pto b1 (.cells #[.slice Ab bs0.length cb, .slice Ac cs0.length cc, .slice Af first.length cf, .slice Ai inner.length ci, .slice Al last.length cl] 76) :: pto b2 (.cells #[.slice A2 (gs).length c2] 64) :: row 66 3 (.slice A2 (gs).length c2) (gs).length ((gs).flatMap encG) :: pto b3 (.cells #[.slice A3 (go).length c3] 64) :: row 66 3 (.slice A3 (go).length c3) (go).length ((go).flatMap encG) :: pto b4 (.cells #[.pointer (some ⟨r, 0, none⟩)] 60) :: pto r (.cells #[.slice A bs.length c, .int .i64 at0, .bool true, .int .i64 0] 100) :: L) ∧ (i ≤ inner.length) ∧ (at_ ≤ cs.length) ∧ (gs.length ≤ i) ∧ (fromA cs 0 inner = app gs (fromA cs at_ (inner.drop i))) ∧ mm = inner.length - i) inner.length ?_ ?_
  · replace hA := hA.keep (.cons (i := 0) rfl (.cons (i := 1) rfl (.cons (i := 2) rfl (.cons (i := 3) rfl (.cons (i := 4) rfl (.cons (i := 6) rfl .nil))))))
    exact ⟨none, 0, 0, 0, [], hA, hS, (by omega), (by omega), (by exact Nat.le_refl 0), (by rfl), by omega⟩
  intro m a w hI
  clear hS hA; obtain ⟨A2, c2, at_, i, gs, hA, hS, hi, hat1, hgl, hF, rfl⟩ := hI
  refine wp_seq_k fun k3 hk3 => ?_
  refine wp_seq_k fun k4 hk4 => ?_
  refine wp_region_lit ?_
  refine go1 hA rfl rfl rfl (r_move (hA.ev rfl)) ?_; clear hA a; intro a hA
  refine go1 hA rfl rfl rfl (r_field (hA.ev rfl) T.fo76_3) ?_; clear hA a; intro a hA
  refine go1 hA rfl rfl rfl (r_load (hA.ev rfl) T.fl63 (by first | exact hS.cell rfl | exact (hS.p 1).cell rfl | exact (hS.p 2).cell rfl | exact (hS.p 3).cell rfl | exact (hS.p 4).cell rfl | exact (hS.p 5).cell rfl | exact (hS.p 6).cell rfl | exact (hS.p 7).cell rfl | exact (hS.p 8).cell rfl | exact (hS.p 9).cell rfl | exact (hS.p 10).cell rfl)) ?_; clear hA a; intro a hA
  refine go1 hA rfl rfl rfl (r_lens (hA.ev rfl) T.un63) ?_; clear hA a; intro a hA
  refine go1s hA rfl rfl rfl (r_lss (hA.ev rfl) (hA.ev rfl)) ?_ ?_
  · clear hA a; intro h12 a hA
    try (first | contradiction | (exfalso; omega) | (exfalso; simp at h12; done))
    all_goals
     skip
     refine wpList_nil ?_
     refine hk4 _ _ ?_
     clear hk4 k4
     refine wp_cond_true (hA.ev rfl) ?_
     refine wp_skip ?_
     refine hk3 _ _ ?_
     clear hk3 k3
     refine wp_seq_k fun k5 hk5 => ?_
     refine wp_block ?_
     refine xEnter [9, 10] (fun w' => ∃ M : List As, Sat W w' (M ++ cellP q' q :: cellE p' 0 :: pto b1 (.cells #[.slice Ab bs0.length cb, .slice Ac cs0.length cc, .slice Af first.length cf, .slice Ai inner.length ci, .slice Al last.length cl] 76) :: pto b2 (.cells #[.slice A2 (gs).length c2] 64) :: row 66 3 (.slice A2 (gs).length c2) (gs).length ((gs).flatMap encG) :: pto b3 (.cells #[.slice A3 (go).length c3] 64) :: row 66 3 (.slice A3 (go).length c3) (go).length ((go).flatMap encG) :: pto b4 (.cells #[.pointer (some ⟨r, 0, none⟩)] 60) :: pto r (.cells #[.slice A bs.length c, .int .i64 at0, .bool true, .int .i64 0] 100) :: L)) (by kernel_rfl) ?_
     replace hS := hS.drew
     refine K.x1 0 hA (pok_block (pok_then (pok_then (pok_block (pok_then pok_body))))) rfl rfl rfl rfl (by kernel_rfl) (by kernel_rfl) (by kernel_rfl) (by kernel_rfl) (by kernel_rfl) (by first | exact ⟨[_], hS⟩ | exact ⟨[_, _], hS⟩) (fun w hT => let ⟨_, hM⟩ := hT; have hS := hM.past; (r_load (hA.ev rfl) T.fl64 (by first | exact hS.cell rfl | exact (hS.p 1).cell rfl | exact (hS.p 2).cell rfl | exact (hS.p 3).cell rfl | exact (hS.p 4).cell rfl | exact (hS.p 5).cell rfl | exact (hS.p 6).cell rfl | exact (hS.p 7).cell rfl | exact (hS.p 8).cell rfl | exact (hS.p 9).cell rfl | exact (hS.p 10).cell rfl))) ?_; clear hA a; intro a hA
     refine K.p1 1 hA (pok_block (pok_then (pok_then (pok_block (pok_then pok_body))))) rfl rfl rfl rfl (by kernel_rfl) (by kernel_rfl) (by kernel_rfl) (fun w => (r_move (hA.ev rfl))) ?_; clear hA a; intro a hA
     refine K.p1 2 hA (pok_block (pok_then (pok_then (pok_block (pok_then pok_body))))) rfl rfl rfl rfl (by kernel_rfl) (by kernel_rfl) (by kernel_rfl) (fun w => (r_field (hA.ev rfl) T.fo76_3)) ?_; clear hA a; intro a hA
     refine K.x1 3 hA (pok_block (pok_then (pok_then (pok_block (pok_then pok_body))))) rfl rfl rfl rfl (by kernel_rfl) (by kernel_rfl) (by kernel_rfl) (by kernel_rfl) (by kernel_rfl) (by first | exact ⟨[_], hS⟩ | exact ⟨[_, _], hS⟩) (fun w hT => let ⟨_, hM⟩ := hT; have hS := hM.past; (r_load (hA.ev rfl) T.fl63 (by first | exact hS.cell rfl | exact (hS.p 1).cell rfl | exact (hS.p 2).cell rfl | exact (hS.p 3).cell rfl | exact (hS.p 4).cell rfl | exact (hS.p 5).cell rfl | exact (hS.p 6).cell rfl | exact (hS.p 7).cell rfl | exact (hS.p 8).cell rfl | exact (hS.p 9).cell rfl | exact (hS.p 10).cell rfl))) ?_; clear hA a; intro a hA
     refine K.p1 4 hA (pok_block (pok_then (pok_then (pok_block (pok_then pok_body))))) rfl rfl rfl rfl (by kernel_rfl) (by kernel_rfl) (by kernel_rfl) (fun w => (r_move (hA.ev rfl))) ?_; clear hA a; intro a hA
     obtain ⟨Ai_p, rfl⟩ : ∃ q, Ai = some q := (hQi.sat hS).hasAddr (by omega)
     obtain ⟨x, hx⟩ : ∃ x, inner[(i : Int).toNat]? = some x := ⟨_, List.getElem?_eq_getElem (by omega)⟩
     have hx' : inner[i]? = some x := by rw [← hx]; congr 1
     obtain ⟨hw0, hw1⟩ := hwi x (List.mem_of_getElem? hx)
     refine K.p1 5 hA (pok_block (pok_then (pok_then (pok_block (pok_then pok_body))))) rfl rfl rfl rfl (by kernel_rfl) (by kernel_rfl) (by kernel_rfl) (fun w => (r_index (hA.ev rfl) (hA.ev rfl) T.un63 T.sz69 (by omega) (by omega))) ?_; clear hA a; intro a hA
     refine K.x1 6 hA (pok_block (pok_then (pok_then (pok_block (pok_then pok_body))))) rfl rfl rfl rfl (by kernel_rfl) (by kernel_rfl) (by kernel_rfl) (by kernel_rfl) (by kernel_rfl) (by first | exact ⟨[_], hS⟩ | exact ⟨[_, _], hS⟩) (fun w hT => let ⟨_, hM⟩ := hT; have hS := hM.past; (r_loadS (cs := encA x) (hA.ev rfl) T.ag69 T.sz69 (fun j u e => rdl2 (hQi.sat hS) (ask_at hx j u e)))) ?_; clear hA a; intro a hA
     refine xOne 7 (by kernel_rfl) ?_
     refine eFP hA rfl rfl T.en31 rfl (askS_calls _ _ _ q Aq cq cs at_ x hS (by omega) (by omega) (fun w h => hRc w h.drop.drop.drop.drop.drop.drop.drop.drop.drop) hw0 hw1) ?_
     rintro e w (⟨h0, rfl, hS⟩ | ⟨h0, at', err, hS, (⟨he, hk8, older, rfl, ho⟩ | ⟨he, hat', h8, hk8, tx, vx, htx, older, rfl, ho⟩)⟩)
     rotate_left 1
     · skip
       refine .inr ⟨_, rfl, ?_⟩
       refine block_panic ?_
       refine then_panic ?_; clear hk5 k5
       refine then_panic ?_
       refine block_panic ?_
       refine then_panic ?_; clear hk1 k1
       refine endP hA ?_
       rw [he] at hS; exact .inl ⟨_, _, false, _, .inr ⟨rfl, .inl ⟨older, rfl, ho⟩⟩, hS, gs, [], go, A2, c2, A3, c3, at0, by simp, rfl, by rw [nestIn_err (from_stop hF hx' h0) h0, finA rfl h0], hat0⟩
     · skip
       refine .inr ⟨_, rfl, ?_⟩
       refine block_panic ?_
       refine then_panic ?_; clear hk5 k5
       refine then_panic ?_
       refine block_panic ?_
       refine then_panic ?_; clear hk1 k1
       refine endP hA ?_
       subst he; exact .inl ⟨_, _, false, _, .inr ⟨rfl, .inr ⟨tx, vx, htx, older, rfl, ho⟩⟩, hS, gs, [], go, A2, c2, A3, c3, at0, by simp, rfl, by rw [nestIn_err (from_stop hF hx' h0) h0, h8, finB rfl], hat0⟩
     have hst := from_step hF hx' h0
     have hpl := one_place (by omega) h0
     refine .inl ⟨_, rfl, ?_⟩; clear hA a; intro a hA
     refine ⟨.inr fun _ => (by first | exact ⟨[_], hS⟩ | exact ⟨[_, _], hS⟩), ?_⟩
     refine xOne 8 (by kernel_rfl) ?_
     refine eLS (vss := [[_, _, _]]) hA rfl rfl rfl T.un64 T.el66 rfl rfl rfl (by simp) rfl hS ?_
     clear hA a hS; intro A23 w hS a hA
     refine ⟨.inr fun _ => (by first | exact ⟨[_], hS⟩ | exact ⟨[_, _], hS⟩), ?_⟩
     refine xOne 9 (by kernel_rfl) ?_
     refine eA hA rfl rfl rfl rfl T.un64 T.el66 rfl (hS.p 6) (hS.rd.src T.un64 (by simp [encG, Value.oneCell'])) (by omega) (by omega) ?_
     clear hA a hS; intro A24 c24 w hc24 hS a hA
     have ge24 : (gs).length + 1 = (gs ++ [(oneA cs at_ x).1]).length := by first | (simp; done) | (simp; omega)
     change Sat W w (row 66 3 (.slice A24 ((gs).length + 1) c24) ((gs).length + 1) ((gs).flatMap encG ++ encG (oneA cs at_ x).1) :: _) at hS
     rw [ge24, got_snoc] at hS
     rw [ge24] at hA
     refine ⟨.inl rfl, ?_⟩
     refine xOne 10 (by kernel_rfl) ?_
     first | refine eW hA rfl rfl rfl T.fl64 T.sz64 rfl hS rfl ?_ | refine eW hA rfl rfl rfl T.fl64 T.sz64 rfl (hS.p 1) rfl ?_ | refine eW hA rfl rfl rfl T.fl64 T.sz64 rfl (hS.p 2) rfl ?_ | refine eW hA rfl rfl rfl T.fl64 T.sz64 rfl (hS.p 3) rfl ?_ | refine eW hA rfl rfl rfl T.fl64 T.sz64 rfl (hS.p 4) rfl ?_ | refine eW hA rfl rfl rfl T.fl64 T.sz64 rfl (hS.p 5) rfl ?_ | refine eW hA rfl rfl rfl T.fl64 T.sz64 rfl (hS.p 6) rfl ?_ | refine eW hA rfl rfl rfl T.fl64 T.sz64 rfl (hS.p 7) rfl ?_ | refine eW hA rfl rfl rfl T.fl64 T.sz64 rfl (hS.p 8) rfl ?_ | refine eW hA rfl rfl rfl T.fl64 T.sz64 rfl (hS.p 9) rfl ?_ | refine eW hA rfl rfl rfl T.fl64 T.sz64 rfl (hS.p 10) rfl ?_
     clear hS; intro w hS
     refine ⟨.inl rfl, ?_⟩
     refine wpAnyX_done (by kernel_rfl) ?_ _
     refine block_normal ?_
     refine hk5 _ _ ?_
     clear hk5 k5
     refine wp_region_lit ?_
     refine go1 hA rfl rfl rfl (r_move (hA.ev rfl)) ?_; clear hA a; intro a hA
     refine go1 hA rfl rfl rfl (r_add64 (hA.ev rfl) (hA.ev rfl) (by omega) (by omega)) ?_; clear hA a; intro a hA
     refine go1 hA rfl rfl rfl (r_assign (hA.ev rfl)) ?_; clear hA a; intro a hA
     refine wpList_nil ?_
     replace hA := hA.keep (.cons (i := 0) rfl (.cons (i := 1) rfl (.cons (i := 2) rfl (.cons (i := 3) rfl (.cons (i := 4) rfl (.cons (i := 6) rfl .nil))))))
     refine ⟨_, ?_, _, _, (oneA cs at_ x).2.1, i + 1, gs ++ [(oneA cs at_ x).1], hA, (((((((((((hS.p 10).p 10).p 10).p 10).p 5).p 5).p 10).p 10).p 10).p 10).p 10).drop, (by omega), (by omega), (by simp; omega), (by exact hst), rfl⟩
     omega
  · clear hA a; intro h12 a hA
    try (first | contradiction | (exfalso; omega) | (exfalso; simp at h12; done))
    all_goals
     skip
     refine wpList_nil ?_
     refine hk4 _ _ ?_
     clear hk4 k4
     refine wp_cond_false (hA.ev rfl) ?_
     refine wp_exit ?_
     refine then_exit ?_; clear hk3 k3
     refine then_exit ?_
     refine block_hit ?_
     refine hk1 _ _ ?_
     clear hk1 k1
     replace hA := hA.keep (.cons (i := 1) rfl (.cons (i := 3) rfl (.cons (i := 4) rfl .nil)))
     refine wp_seq_k fun k6 hk6 => ?_
     refine wp_region_lit ?_
     refine go1 hA rfl rfl rfl (r_assign (hA.ev rfl)) ?_; clear hA a; intro a hA
     refine wpList_nil ?_
     refine hk6 _ _ ?_
     clear hk6 k6
     refine wp_block ?_
     have hov := from_over hF (by omega)
     refine wp_loop_ghost (fun (mm : Nat) a w => ∃ (A4 : Option Addr) (c4 at2 i : Nat) (hs : List GotD), Ag a 42 [(1, .pointer (some ⟨b1, 0, none⟩)), (3, .pointer (some ⟨b3, 0, none⟩)), (4, .pointer (some ⟨b4, 0, none⟩)), (7, .int .i64 ((i : Nat) : Int))] ∧ Sat W w (pto r (.cells #[.slice A bs.length c, .int .i64 (at2 : Nat), .bool true, .int .i64 0] 100) :: pto q (.cells #[.slice Aq cs.length cq, .int .i64 at_, .bool true, .int .i64 0] 100) :: cellP q' q :: cellE p' 0 :: pto b1 (.cells #[.slice Ab bs0.length cb, .slice Ac cs0.length cc, .slice Af first.length cf, .slice Ai inner.length ci, .slice Al last.length cl] 76) :: pto b2 (.cells #[.slice A2 (gs).length c2] 64) :: row 66 3 (.slice A2 (gs).length c2) (gs).length ((gs).flatMap encG) :: pto b3 (.cells #[.slice A4 ((go ++ hs)).length c4] 64) :: row 66 3 (.slice A4 ((go ++ hs)).length c4) ((go ++ hs)).length (((go ++ hs)).flatMap encG) :: pto b4 (.cells #[.pointer (some ⟨r, 0, none⟩)] 60) :: L) ∧ (i ≤ last.length) ∧ (at2 ≤ bs.length) ∧ (hs.length ≤ i) ∧ (i ≤ calmN last) ∧ (fromA bs at0 (last.take (calmN last)) = app hs (fromA bs at2 ((last.take (calmN last)).drop i))) ∧ mm = last.length - i) last.length ?_ ?_
     · replace hA := hA.keep (.cons (i := 1) rfl (.cons (i := 3) rfl (.cons (i := 4) rfl (.cons (i := 7) rfl .nil))))
       exact ⟨A3, c3, at0, 0, [], hA, (show Sat W w (_ :: _ :: _ :: _ :: _ :: _ :: _ :: pto b3 (.cells #[.slice A3 ((go ++ [])).length c3] 64) :: row 66 3 (.slice A3 ((go ++ [])).length c3) ((go ++ [])).length (((go ++ [])).flatMap encG) :: _) from by rw [List.append_nil]; exact (hS.p 9)), (by omega), (by omega), (by exact Nat.le_refl 0), (by omega), (by rfl), by omega⟩
     intro m a w hI
     clear hS hA; obtain ⟨A4, c4, at2, i, hs, hA, hS, hi, hat2, hhl, hic, hF2, rfl⟩ := hI
     refine wp_seq_k fun k7 hk7 => ?_
     refine wp_seq_k fun k8 hk8 => ?_
     refine wp_region_lit ?_
     refine go1 hA rfl rfl rfl (r_move (hA.ev rfl)) ?_; clear hA a; intro a hA
     refine go1 hA rfl rfl rfl (r_field (hA.ev rfl) T.fo76_4) ?_; clear hA a; intro a hA
     refine go1 hA rfl rfl rfl (r_load (hA.ev rfl) T.fl63 (by first | exact hS.cell rfl | exact (hS.p 1).cell rfl | exact (hS.p 2).cell rfl | exact (hS.p 3).cell rfl | exact (hS.p 4).cell rfl | exact (hS.p 5).cell rfl | exact (hS.p 6).cell rfl | exact (hS.p 7).cell rfl | exact (hS.p 8).cell rfl | exact (hS.p 9).cell rfl | exact (hS.p 10).cell rfl)) ?_; clear hA a; intro a hA
     refine go1 hA rfl rfl rfl (r_lens (hA.ev rfl) T.un63) ?_; clear hA a; intro a hA
     refine go1s hA rfl rfl rfl (r_lss (hA.ev rfl) (hA.ev rfl)) ?_ ?_
     · clear hA a; intro h29 a hA
       try (first | contradiction | (exfalso; omega) | (exfalso; simp at h29; done))
       all_goals
        skip
        refine wpList_nil ?_
        refine hk8 _ _ ?_
        clear hk8 k8
        refine wp_cond_true (hA.ev rfl) ?_
        refine wp_skip ?_
        refine hk7 _ _ ?_
        clear hk7 k7
        refine wp_seq_k fun k9 hk9 => ?_
        refine wp_block ?_
        refine xEnter [9, 10] (fun w' => ∃ M : List As, Sat W w' (M ++ pto q (.cells #[.slice Aq cs.length cq, .int .i64 at_, .bool true, .int .i64 0] 100) :: cellP q' q :: cellE p' 0 :: pto b1 (.cells #[.slice Ab bs0.length cb, .slice Ac cs0.length cc, .slice Af first.length cf, .slice Ai inner.length ci, .slice Al last.length cl] 76) :: pto b2 (.cells #[.slice A2 (gs).length c2] 64) :: row 66 3 (.slice A2 (gs).length c2) (gs).length ((gs).flatMap encG) :: pto b3 (.cells #[.slice A4 ((go ++ hs)).length c4] 64) :: row 66 3 (.slice A4 ((go ++ hs)).length c4) ((go ++ hs)).length (((go ++ hs)).flatMap encG) :: pto b4 (.cells #[.pointer (some ⟨r, 0, none⟩)] 60) :: L)) (by kernel_rfl) ?_
        replace hS := hS.drew
        refine K.x1 0 hA (pok_block (pok_then (pok_then (pok_block pok_body)))) rfl rfl rfl rfl (by kernel_rfl) (by kernel_rfl) (by kernel_rfl) (by kernel_rfl) (by kernel_rfl) (by first | exact ⟨[_], hS⟩ | exact ⟨[_, _], hS⟩) (fun w hT => let ⟨_, hM⟩ := hT; have hS := hM.past; (r_load (hA.ev rfl) T.fl64 (by first | exact hS.cell rfl | exact (hS.p 1).cell rfl | exact (hS.p 2).cell rfl | exact (hS.p 3).cell rfl | exact (hS.p 4).cell rfl | exact (hS.p 5).cell rfl | exact (hS.p 6).cell rfl | exact (hS.p 7).cell rfl | exact (hS.p 8).cell rfl | exact (hS.p 9).cell rfl | exact (hS.p 10).cell rfl))) ?_; clear hA a; intro a hA
        refine K.x1 1 hA (pok_block (pok_then (pok_then (pok_block pok_body)))) rfl rfl rfl rfl (by kernel_rfl) (by kernel_rfl) (by kernel_rfl) (by kernel_rfl) (by kernel_rfl) (by first | exact ⟨[_], hS⟩ | exact ⟨[_, _], hS⟩) (fun w hT => let ⟨_, hM⟩ := hT; have hS := hM.past; (r_load (hA.ev rfl) T.fl60 (by first | exact hS.cell rfl | exact (hS.p 1).cell rfl | exact (hS.p 2).cell rfl | exact (hS.p 3).cell rfl | exact (hS.p 4).cell rfl | exact (hS.p 5).cell rfl | exact (hS.p 6).cell rfl | exact (hS.p 7).cell rfl | exact (hS.p 8).cell rfl | exact (hS.p 9).cell rfl | exact (hS.p 10).cell rfl))) ?_; clear hA a; intro a hA
        refine K.p1 2 hA (pok_block (pok_then (pok_then (pok_block pok_body)))) rfl rfl rfl rfl (by kernel_rfl) (by kernel_rfl) (by kernel_rfl) (fun w => (r_field (hA.ev rfl) T.fo76_4)) ?_; clear hA a; intro a hA
        refine K.x1 3 hA (pok_block (pok_then (pok_then (pok_block pok_body)))) rfl rfl rfl rfl (by kernel_rfl) (by kernel_rfl) (by kernel_rfl) (by kernel_rfl) (by kernel_rfl) (by first | exact ⟨[_], hS⟩ | exact ⟨[_, _], hS⟩) (fun w hT => let ⟨_, hM⟩ := hT; have hS := hM.past; (r_load (hA.ev rfl) T.fl63 (by first | exact hS.cell rfl | exact (hS.p 1).cell rfl | exact (hS.p 2).cell rfl | exact (hS.p 3).cell rfl | exact (hS.p 4).cell rfl | exact (hS.p 5).cell rfl | exact (hS.p 6).cell rfl | exact (hS.p 7).cell rfl | exact (hS.p 8).cell rfl | exact (hS.p 9).cell rfl | exact (hS.p 10).cell rfl))) ?_; clear hA a; intro a hA
        refine K.p1 4 hA (pok_block (pok_then (pok_then (pok_block pok_body)))) rfl rfl rfl rfl (by kernel_rfl) (by kernel_rfl) (by kernel_rfl) (fun w => (r_move (hA.ev rfl))) ?_; clear hA a; intro a hA
        obtain ⟨Al_p, rfl⟩ : ∃ q, Al = some q := (hQl.sat hS).hasAddr (by omega)
        obtain ⟨x, hx⟩ : ∃ x, last[(i : Int).toNat]? = some x := ⟨_, List.getElem?_eq_getElem (by omega)⟩
        have hx' : last[i]? = some x := by rw [← hx]; congr 1
        obtain ⟨hw0, hw1⟩ := hwl x (List.mem_of_getElem? hx)
        refine K.p1 5 hA (pok_block (pok_then (pok_then (pok_block pok_body)))) rfl rfl rfl rfl (by kernel_rfl) (by kernel_rfl) (by kernel_rfl) (fun w => (r_index (hA.ev rfl) (hA.ev rfl) T.un63 T.sz69 (by omega) (by omega))) ?_; clear hA a; intro a hA
        refine K.x1 6 hA (pok_block (pok_then (pok_then (pok_block pok_body)))) rfl rfl rfl rfl (by kernel_rfl) (by kernel_rfl) (by kernel_rfl) (by kernel_rfl) (by kernel_rfl) (by first | exact ⟨[_], hS⟩ | exact ⟨[_, _], hS⟩) (fun w hT => let ⟨_, hM⟩ := hT; have hS := hM.past; (r_loadS (cs := encA x) (hA.ev rfl) T.ag69 T.sz69 (fun j u e => rdl2 (hQl.sat hS) (ask_at hx j u e)))) ?_; clear hA a; intro a hA
        refine xOne 7 (by kernel_rfl) ?_
        refine eFP hA rfl rfl T.en31 rfl (askS_calls _ _ _ r A c bs at2 x hS (by omega) (by omega) (fun w h => hR w h.drop.drop.drop.drop.drop.drop.drop.drop.drop) hw0 hw1) ?_
        rintro e w (⟨h0, rfl, hS⟩ | ⟨h0, at', err, hS, (⟨he, hk8, older, rfl, ho⟩ | ⟨he, hat', h8, hk8, tx, vx, htx, older, rfl, ho⟩)⟩)
        rotate_left 1
        · skip
          refine .inr ⟨_, rfl, ?_⟩
          refine block_panic ?_
          refine then_panic ?_; clear hk9 k9
          refine then_panic ?_
          refine block_panic ?_
          refine endP hA ?_
          have hcp := calm_pass hic hx' hk8; rw [he] at hS; exact .inr ⟨_, _, A, bs.length, c, _, _, _, ⟨older, rfl, ho⟩, hS.push3, rfl, rfl, rfl, gs, hs, _, A2, c2, A4, c4, rfl, rfl, nestIn_out hov (from_stop hF2 (calm_at hx' hcp) h0) h0, h0⟩
        · skip
          refine .inr ⟨_, rfl, ?_⟩
          refine block_panic ?_
          refine then_panic ?_; clear hk9 k9
          refine then_panic ?_
          refine block_panic ?_
          refine endP hA ?_
          have hcl := calm_hit hic hx' hk8; have hov2 := from_over hF2 (by simp; omega); subst he; subst hat'; exact .inl ⟨_, _, false, _, .inr ⟨rfl, .inr ⟨tx, vx, htx, older, rfl, ho⟩⟩, (((((((((hS.p 9).p 9).p 9).p 9).p 9).p 9).p 9).p 9).p 9), gs, hs, _, A2, c2, A4, c4, at2, rfl, rfl, by rw [nestIn_ok hov hov2, if_pos (by omega), finB rfl], hat2⟩
        have hn8 : x.k ≠ 8 := (fun h => by rw [oneA8 h] at h0; cases h0)
        have hcp := calm_pass hic hx' hn8
        have hst := from_step hF2 (calm_at hx' hcp) h0
        have hpl := one_place (by omega) h0
        refine .inl ⟨_, rfl, ?_⟩; clear hA a; intro a hA
        refine ⟨.inr fun _ => (by first | exact ⟨[_], hS⟩ | exact ⟨[_, _], hS⟩), ?_⟩
        refine xOne 8 (by kernel_rfl) ?_
        refine eLS (vss := [[_, _, _]]) hA rfl rfl rfl T.un64 T.el66 rfl rfl rfl (by simp) rfl hS ?_
        clear hA a hS; intro A40 w hS a hA
        refine ⟨.inr fun _ => (by first | exact ⟨[_], hS⟩ | exact ⟨[_, _], hS⟩), ?_⟩
        refine xOne 9 (by kernel_rfl) ?_
        refine eA hA rfl rfl rfl rfl T.un64 T.el66 rfl (hS.p 9) (hS.rd.src T.un64 (by simp [encG, Value.oneCell'])) (by rw [List.length_append]; omega) (by rw [List.length_append]; omega) ?_
        clear hA a hS; intro A41 c41 w hc41 hS a hA
        have ge41 : ((go ++ hs)).length + 1 = ((go ++ hs) ++ [(oneA bs at2 x).1]).length := by first | (simp; done) | (simp; omega)
        change Sat W w (row 66 3 (.slice A41 (((go ++ hs)).length + 1) c41) (((go ++ hs)).length + 1) (((go ++ hs)).flatMap encG ++ encG (oneA bs at2 x).1) :: _) at hS
        rw [ge41, got_snoc] at hS
        rw [ge41] at hA
        rw [List.append_assoc] at hS hA
        refine ⟨.inl rfl, ?_⟩
        refine xOne 10 (by kernel_rfl) ?_
        first | refine eW hA rfl rfl rfl T.fl64 T.sz64 rfl hS rfl ?_ | refine eW hA rfl rfl rfl T.fl64 T.sz64 rfl (hS.p 1) rfl ?_ | refine eW hA rfl rfl rfl T.fl64 T.sz64 rfl (hS.p 2) rfl ?_ | refine eW hA rfl rfl rfl T.fl64 T.sz64 rfl (hS.p 3) rfl ?_ | refine eW hA rfl rfl rfl T.fl64 T.sz64 rfl (hS.p 4) rfl ?_ | refine eW hA rfl rfl rfl T.fl64 T.sz64 rfl (hS.p 5) rfl ?_ | refine eW hA rfl rfl rfl T.fl64 T.sz64 rfl (hS.p 6) rfl ?_ | refine eW hA rfl rfl rfl T.fl64 T.sz64 rfl (hS.p 7) rfl ?_ | refine eW hA rfl rfl rfl T.fl64 T.sz64 rfl (hS.p 8) rfl ?_ | refine eW hA rfl rfl rfl T.fl64 T.sz64 rfl (hS.p 9) rfl ?_ | refine eW hA rfl rfl rfl T.fl64 T.sz64 rfl (hS.p 10) rfl ?_
        clear hS; intro w hS
        refine ⟨.inl rfl, ?_⟩
        refine wpAnyX_done (by kernel_rfl) ?_ _
        refine block_normal ?_
        refine hk9 _ _ ?_
        clear hk9 k9
        refine wp_region_lit ?_
        refine go1 hA rfl rfl rfl (r_move (hA.ev rfl)) ?_; clear hA a; intro a hA
        refine go1 hA rfl rfl rfl (r_add64 (hA.ev rfl) (hA.ev rfl) (by omega) (by omega)) ?_; clear hA a; intro a hA
        refine go1 hA rfl rfl rfl (r_assign (hA.ev rfl)) ?_; clear hA a; intro a hA
        refine wpList_nil ?_
        replace hA := hA.keep (.cons (i := 1) rfl (.cons (i := 3) rfl (.cons (i := 4) rfl (.cons (i := 7) rfl .nil))))
        refine ⟨_, ?_, _, _, (oneA bs at2 x).2.1, i + 1, hs ++ [(oneA bs at2 x).1], hA, (((((((((((hS.p 10).p 2).p 2).p 10).p 10).p 10).p 10).p 10).p 10).p 10).p 10).drop, (by omega), (by omega), (by simp; omega), (by omega), (by exact hst), rfl⟩
        omega
     · clear hA a; intro h29 a hA
       try (first | contradiction | (exfalso; omega) | (exfalso; simp at h29; done))
       all_goals
        skip
        refine wpList_nil ?_
        refine hk8 _ _ ?_
        clear hk8 k8
        refine wp_cond_false (hA.ev rfl) ?_
        refine wp_exit ?_
        refine then_exit ?_; clear hk7 k7
        refine then_exit ?_
        refine block_hit ?_
        refine end_n (e := .ret) ?_
        refine end0 hA rfl  ?_
        have hcl := calm_le last
        have hov2 := from_over hF2 (by simp; omega)
        exact .inl ⟨_, _, true, _, .inl ⟨rfl, rfl⟩, (((((((((hS.p 9).p 9).p 9).p 9).p 9).p 9).p 9).p 9).p 9), gs, hs, _, A2, c2, A4, c4, at2, rfl, rfl, by rw [nestIn_ok hov hov2, if_neg (by omega), finC]; simp, hat2⟩
end Go.Proofs.Ytmnekmclpepclaa.Wk
