/- The walk of barrowlaw05.WireNested: it returns true. Conditions: at most 10 to the 9 bytes and asks. -/
import Derived.Test.YtmnekmclpepclaaWkWire23
set_option linter.unusedVariables false
set_option linter.unusedSimpArgs false
namespace Go.Proofs.Ytmnekmclpepclaa.Wk
open Go Go.RowKit Go.Proofs.Ytmnekmclpepclaa Go.Proofs.Ytmnekmclpepclaa.K
theorem cap_of {W : World} {A : Option Addr} {n c sz : Nat} {cs : List Value} (h : Rd W sz (.slice A n c) n cs) : n ≤ c := by
  obtain ⟨A', c', hv, hc⟩ := h.form
  injection hv with h1 h2 h3
  omega
theorem ask_cut {w : World} {A : Option Addr} {c : Nat} {l : List AskD} (h : Rd w 2 (.slice A l.length c) l.length (l.flatMap encA)) (n : Nat) (hn : n ≤ l.length) : Rd w 2 (.slice (cutA A c 2 0) (l.take n).length c) (l.take n).length ((l.take n).flatMap encA) := by
  have h' := h.cut_h n hn
  have e : (l.take n).length = n := by simp; omega
  rw [e]
  have e2 : ∀ (l : List AskD) (n : Nat), (l.flatMap encA).take (n * 2) = (l.take n).flatMap encA := by
    intro l
    induction l with
    | nil => intro n; simp
    | cons x l ih =>
      intro n
      cases n with
      | zero => simp
      | succ n =>
        have := ih n
        simp only [List.flatMap_cons, List.take_succ_cons, ← this]
        rw [show (n + 1) * 2 = (encA x).length + n * 2 from by simp [encA]; omega, List.take_length_add_append]
  rwa [e2] at h'
theorem ask_slice {A : Option Addr} {c n : Nat} {l : List AskD} (hn : n ≤ l.length) : (Value.slice (cutA A c 2 0) ((n : Int)).toNat c) = .slice (cutA A c 2 0) (l.take n).length c := by
  have : (l.take n).length = n := by simp; omega
  rw [this]; simp
theorem got_cut {w : World} {A : Option Addr} {c : Nat} {gs hs : List GotD} (h : Rd w 3 (.slice A (gs ++ hs).length c) (gs ++ hs).length ((gs ++ hs).flatMap encG)) : Rd w 3 (.slice (cutA A c 3 0) gs.length c) gs.length (gs.flatMap encG) := by
  have h' := h.cut_h gs.length (by simp)
  have e : ∀ gs : List GotD, (gs.flatMap encG).length = gs.length * 3 := by
    intro gs; induction gs with
    | nil => rfl
    | cons g gs ih => rw [List.flatMap_cons, List.length_append, ih]; simp [encG]; omega
  have e := e gs
  rwa [List.flatMap_append, List.take_append_of_le_length (by omega), List.take_of_length_le (by omega)] at h'
theorem nestO_in {bs cs : List UInt8} {at0 ci : Nat} {first inner last : List AskD} {want win : List GotD} {g : Int} (hF : fromA bs 0 first = (want, at0, 0)) (hG : fromA cs 0 inner = (win, ci, g)) : (nestO bs cs first inner last).2.1 = win := by
  have h : (nestIn bs cs at0 inner last).1 = win := by
    unfold nestIn; rw [hG]; split
    · rfl
    · split <;> rfl
  unfold nestO; rw [hF]; simp only [ne_eq, not_true_eq_false, if_false]
  split <;> exact h
set_option maxRecDepth 100000 in
set_option maxHeartbeats 1000000 in
theorem WN2_calls (W w : World) (L : List As) (r q p g2 : Nat) (A : Option Addr) (c : Nat) (bs : List UInt8) (A2 : Option Addr) (c2 : Nat) (gg : List GotD) (g : GotD) (nx : Nat) (hS : Sat W w (rdc r A c bs 0 true 0 :: cellP q r :: cellE p 0 :: pto g2 (.cells #[.slice A2 (gg).length c2] 64) :: row 66 3 (.slice A2 (gg).length c2) (gg).length ((gg).flatMap encG) :: L)) (hb : bs.length ≤ 140737488355328) (hgl : gg.length ≤ 2000000000) (hR : ∀ w, Sat W w L → Rd w 1 (.slice A bs.length c) bs.length (bs.map bcell)) (h1 : oneA bs 0 ⟨1, 7⟩ = (g, nx, 0)) : Calls Try.prog 38 #[.pointer (some ⟨r, 0, none⟩), .pointer (some ⟨g2, 0, none⟩)] w fun e w' => ∃ (A' : Option Addr) (c' : Nat), e = .returned (.tuple #[]) ∧ Sat W w' (rdc r A c bs nx true 0 :: cellP q r :: cellE p 0 :: pto g2 (.cells #[.slice A' ((gg ++ [g])).length c'] 64) :: row 66 3 (.slice A' ((gg ++ [g])).length c') ((gg ++ [g])).length (((gg ++ [g])).flatMap encG) :: L) := by
  refine enter Try.func38 rfl rfl rfl (.cons (i := 0) rfl (.cons (i := 1) rfl .nil)) ?_
  intro a hA
  change Sat W w (pto r (.cells #[.slice A bs.length c, .int .i64 0, .bool true, .int .i64 0] 100) :: cellP q r :: cellE p 0 :: pto g2 (.cells #[.slice A2 (gg).length c2] 64) :: row 66 3 (.slice A2 (gg).length c2) (gg).length ((gg).flatMap encG) :: L) at hS
  refine xEnter [5, 6] (fun w' => ∃ M : List As, Sat W w' (M ++ cellP q r :: cellE p 0 :: pto g2 (.cells #[.slice A2 (gg).length c2] 64) :: row 66 3 (.slice A2 (gg).length c2) (gg).length ((gg).flatMap encG) :: L)) (by kernel_rfl) ?_
  replace hS := hS.drew
  refine K.x1 0 hA pok_body rfl rfl rfl rfl (by kernel_rfl) (by kernel_rfl) (by kernel_rfl) (by kernel_rfl) (by kernel_rfl) (by first | exact ⟨[_], hS⟩ | exact ⟨[_, _], hS⟩) (fun w hT => let ⟨_, hM⟩ := hT; have hS := hM.past; (r_load (hA.ev rfl) T.fl64 (by first | exact hS.cell rfl | exact (hS.p 1).cell rfl | exact (hS.p 2).cell rfl | exact (hS.p 3).cell rfl | exact (hS.p 4).cell rfl | exact (hS.p 5).cell rfl | exact (hS.p 6).cell rfl))) ?_; clear hA a; intro a hA
  refine K.p1 1 hA pok_body rfl rfl rfl rfl (by kernel_rfl) (by kernel_rfl) (by kernel_rfl) (fun w => (r_move (hA.ev rfl))) ?_; clear hA a; intro a hA
  refine K.p1 2 hA pok_body rfl rfl rfl rfl (by kernel_rfl) (by kernel_rfl) (by kernel_rfl) (fun w => (r_build hA rfl T.bd69_0_1)) ?_; clear hA a; intro a hA
  refine xOne 3 (by kernel_rfl) ?_
  refine eFP hA rfl rfl T.en31 rfl (ask_calls _ _ _ r A c bs 0 ⟨1, 7⟩ hS (by omega) (by omega) (fun w h => hR w h.drop.drop.drop.drop) (by decide) (by decide)) ?_
  rintro e w (⟨h0, rfl, hS⟩ | ⟨h0, _⟩)
  rotate_left 1
  · skip
    exact absurd (by rw [h1]) h0
  rw [h1] at hS ⊢
  refine .inl ⟨_, rfl, ?_⟩; clear hA a; intro a hA
  refine ⟨.inr fun _ => (by first | exact ⟨[_], hS⟩ | exact ⟨[_, _], hS⟩), ?_⟩
  refine xOne 4 (by kernel_rfl) ?_
  refine eLS (vss := [[_, _, _]]) hA rfl rfl rfl T.un64 T.el66 rfl rfl rfl (by simp) rfl hS ?_
  clear hA a hS; intro A7 w hS a hA
  refine ⟨.inr fun _ => (by first | exact ⟨[_], hS⟩ | exact ⟨[_, _], hS⟩), ?_⟩
  refine xOne 5 (by kernel_rfl) ?_
  refine eA hA rfl rfl rfl rfl T.un64 T.el66 rfl (hS.p 5) (hS.rd.src T.un64 (by simp [encG, Value.oneCell'])) (by omega) (by omega) ?_
  clear hA a hS; intro A8 c8 w hc8 hS a hA
  have ge8 : gg.length + 1 = (gg ++ [g]).length := by simp
  change Sat W w (row 66 3 (.slice A8 (gg.length + 1) c8) (gg.length + 1) (gg.flatMap encG ++ encG g) :: _) at hS
  rw [ge8, got_snoc] at hS
  rw [ge8] at hA
  refine ⟨.inl rfl, ?_⟩
  refine xOne 6 (by kernel_rfl) ?_
  first | refine eW hA rfl rfl rfl T.fl64 T.sz64 rfl hS rfl ?_ | refine eW hA rfl rfl rfl T.fl64 T.sz64 rfl (hS.p 1) rfl ?_ | refine eW hA rfl rfl rfl T.fl64 T.sz64 rfl (hS.p 2) rfl ?_ | refine eW hA rfl rfl rfl T.fl64 T.sz64 rfl (hS.p 3) rfl ?_ | refine eW hA rfl rfl rfl T.fl64 T.sz64 rfl (hS.p 4) rfl ?_ | refine eW hA rfl rfl rfl T.fl64 T.sz64 rfl (hS.p 5) rfl ?_ | refine eW hA rfl rfl rfl T.fl64 T.sz64 rfl (hS.p 6) rfl ?_
  clear hS; intro w hS
  refine ⟨.inl rfl, ?_⟩
  refine wpAnyX_done (by kernel_rfl) ?_ _
  refine end_n (e := .ret) ?_
  refine end0 hA rfl  ?_
  exact ⟨_, _, rfl, ((((((hS.p 1).p 1).p 5).p 5).p 5).p 5).drop⟩
set_option maxRecDepth 100000 in
set_option maxHeartbeats 1000000 in
theorem WireNested_calls (W : World) (Ab Ac Af Ai Al : Option Addr) (cb cc cf ci cl : Nat) (bs cs : List UInt8) (first inner last : List AskD) (hb : bs.length ≤ 1000000000) (hc : cs.length ≤ 1000000000) (hRb : Rd W 1 (.slice Ab bs.length cb) bs.length (bs.map bcell)) (hRc : Rd W 1 (.slice Ac cs.length cc) cs.length (cs.map bcell)) (hQf : Rd W 2 (.slice Af first.length cf) first.length (first.flatMap encA)) (hQi : Rd W 2 (.slice Ai inner.length ci) inner.length (inner.flatMap encA)) (hQl : Rd W 2 (.slice Al last.length cl) last.length (last.flatMap encA)) (hwf : ∀ x ∈ first, -9223372036854775808 ≤ x.n ∧ x.n ≤ 9223372036854775807) (hwi : ∀ x ∈ inner, -9223372036854775808 ≤ x.n ∧ x.n ≤ 9223372036854775807) (hwl : ∀ x ∈ last, -9223372036854775808 ≤ x.n ∧ x.n ≤ 9223372036854775807) (hlf : first.length ≤ 1000000000) (hli : inner.length ≤ 1000000000) (hll : last.length ≤ 1000000000) : Calls Try.prog 9 #[.agg #[.slice Ab bs.length cb, .slice Ac cs.length cc, .slice Af first.length cf, .slice Ai inner.length ci, .slice Al last.length cl]] W fun e w' => e = .returned (.bool true) ∧ Sat W w' [] := by
  refine enter Try.func9 rfl rfl rfl (.cons (i := 0) rfl .nil) ?_
  intro a hA
  have hS := Sat.start W
  have hclc := cap_of hQl
  refine wp_seq_k fun k1 hk1 => ?_
  refine wp_region_lit ?_
  refine goB hA rfl rfl hS ?_
  clear hA a hS; intro b1 w hS a hA
  refine go1 hA rfl rfl rfl (r_assign (hA.ev rfl)) ?_; clear hA a; intro a hA
  refine wpList_nil ?_
  refine hk1 _ _ ?_
  clear hk1 k1
  replace hA := hA.keep (.cons (i := 1) rfl (.cons (i := 2) rfl .nil))
  refine wp_seq_k fun k2 hk2 => ?_
  refine wp_region_lit ?_
  refine goN hA rfl T.zv64 hS ?_
  clear hA a hS; intro b3 w hS a hA
  refine goN hA rfl T.zv64 hS ?_
  clear hA a hS; intro b4 w hS a hA
  refine wpList_nil ?_
  refine hk2 _ _ ?_
  clear hk2 k2
  refine wp_seq_k fun k3 hk3 => ?_
  refine wp_region_lit ?_
  refine goN hA rfl T.zv4 hS ?_
  clear hA a hS; intro b5 w hS a hA
  first | refine goW2 (cs' := [_]) hA rfl rfl T.fl4 T.sz4 rfl hS rfl rfl ?_ | refine goW2 (cs' := [_]) hA rfl rfl T.fl4 T.sz4 rfl (hS.p 1) rfl rfl ?_ | refine goW2 (cs' := [_]) hA rfl rfl T.fl4 T.sz4 rfl (hS.p 2) rfl rfl ?_ | refine goW2 (cs' := [_]) hA rfl rfl T.fl4 T.sz4 rfl (hS.p 3) rfl rfl ?_ | refine goW2 (cs' := [_]) hA rfl rfl T.fl4 T.sz4 rfl (hS.p 4) rfl rfl ?_ | refine goW2 (cs' := [_]) hA rfl rfl T.fl4 T.sz4 rfl (hS.p 5) rfl rfl ?_ | refine goW2 (cs' := [_]) hA rfl rfl T.fl4 T.sz4 rfl (hS.p 6) rfl rfl ?_ | refine goW2 (cs' := [_]) hA rfl rfl T.fl4 T.sz4 rfl (hS.p 7) rfl rfl ?_ | refine goW2 (cs' := [_]) hA rfl rfl T.fl4 T.sz4 rfl (hS.p 8) rfl rfl ?_ | refine goW2 (cs' := [_]) hA rfl rfl T.fl4 T.sz4 rfl (hS.p 9) rfl rfl ?_ | refine goW2 (cs' := [_]) hA rfl rfl T.fl4 T.sz4 rfl (hS.p 10) rfl rfl ?_ | refine goW2 (cs' := [_]) hA rfl rfl T.fl4 T.sz4 rfl (hS.p 11) rfl rfl ?_ | refine goW2 (cs' := [_]) hA rfl rfl T.fl4 T.sz4 rfl (hS.p 12) rfl rfl ?_ | refine goW2 (cs' := [_]) hA rfl rfl T.fl4 T.sz4 rfl (hS.p 13) rfl rfl ?_
  clear hS; intro w hS
  refine wpList_nil ?_
  refine hk3 _ _ ?_
  clear hk3 k3
  refine wp_seq_k fun k4 hk4 => ?_
  refine wp_region_lit ?_
  refine goN hA rfl T.zv23 hS ?_
  clear hA a hS; intro b6 w hS a hA
  first | refine goW2 (cs' := [_]) hA rfl rfl T.fl23 T.sz23 rfl hS rfl rfl ?_ | refine goW2 (cs' := [_]) hA rfl rfl T.fl23 T.sz23 rfl (hS.p 1) rfl rfl ?_ | refine goW2 (cs' := [_]) hA rfl rfl T.fl23 T.sz23 rfl (hS.p 2) rfl rfl ?_ | refine goW2 (cs' := [_]) hA rfl rfl T.fl23 T.sz23 rfl (hS.p 3) rfl rfl ?_ | refine goW2 (cs' := [_]) hA rfl rfl T.fl23 T.sz23 rfl (hS.p 4) rfl rfl ?_ | refine goW2 (cs' := [_]) hA rfl rfl T.fl23 T.sz23 rfl (hS.p 5) rfl rfl ?_ | refine goW2 (cs' := [_]) hA rfl rfl T.fl23 T.sz23 rfl (hS.p 6) rfl rfl ?_ | refine goW2 (cs' := [_]) hA rfl rfl T.fl23 T.sz23 rfl (hS.p 7) rfl rfl ?_ | refine goW2 (cs' := [_]) hA rfl rfl T.fl23 T.sz23 rfl (hS.p 8) rfl rfl ?_ | refine goW2 (cs' := [_]) hA rfl rfl T.fl23 T.sz23 rfl (hS.p 9) rfl rfl ?_ | refine goW2 (cs' := [_]) hA rfl rfl T.fl23 T.sz23 rfl (hS.p 10) rfl rfl ?_ | refine goW2 (cs' := [_]) hA rfl rfl T.fl23 T.sz23 rfl (hS.p 11) rfl rfl ?_ | refine goW2 (cs' := [_]) hA rfl rfl T.fl23 T.sz23 rfl (hS.p 12) rfl rfl ?_ | refine goW2 (cs' := [_]) hA rfl rfl T.fl23 T.sz23 rfl (hS.p 13) rfl rfl ?_
  clear hS; intro w hS
  refine wpList_nil ?_
  refine hk4 _ _ ?_
  clear hk4 k4
  refine wp_seq_k fun k5 hk5 => ?_
  refine wp_region_lit ?_
  refine goL0 hA rfl T.un22 T.el5 hS ?_
  clear hA a hS; intro A19 w hS a hA
  refine go1 hA rfl rfl rfl (r_field (hA.ev rfl) T.fo76_0) ?_; clear hA a; intro a hA
  refine go1 hA rfl rfl rfl (r_load (hA.ev rfl) T.fl22 (by first | exact hS.cell rfl | exact (hS.p 1).cell rfl | exact (hS.p 2).cell rfl | exact (hS.p 3).cell rfl | exact (hS.p 4).cell rfl | exact (hS.p 5).cell rfl | exact (hS.p 6).cell rfl | exact (hS.p 7).cell rfl | exact (hS.p 8).cell rfl | exact (hS.p 9).cell rfl | exact (hS.p 10).cell rfl | exact (hS.p 11).cell rfl | exact (hS.p 12).cell rfl | exact (hS.p 13).cell rfl)) ?_; clear hA a; intro a hA
  refine goA' hA rfl rfl rfl T.un22 T.el5 rfl hS ((hRb.sat hS).src T.un22 (bcells_one _)) (by omega) (by omega) ?_
  clear hA a hS; intro A22 c22 w hc22 hS a hA
  simp only [Nat.zero_add, List.nil_append] at hS hA
  refine go1 hA rfl rfl rfl (r_mkF (hA.evl rfl)) ?_; clear hA a; intro a hA
  refine goF hA rfl T.en26 rfl (Read_calls _ _ _ A22 c22 bs (fun _ at' err ok M => ∃ (gg gi : List GotD) (A2 : Option Addr) (c2 : Nat) (A3 : Option Addr) (c3 : Nat) (x : Int) (b : Bool), M = outL b1 b3 b4 b6 b5 Ab Ac Af Ai Al cb cc cf ci cl bs cs first inner last A2 gg c2 A3 gi c3 x b [row 5 1 (.slice A22 bs.length c22) bs.length (bs.map bcell)] ∧ nestO bs cs first inner last = (gg, gi, x, b, finR ok err at' bs.length)) 36 [.pointer (some ⟨b1, 0, none⟩), .pointer (some ⟨b3, 0, none⟩), .pointer (some ⟨b4, 0, none⟩), .pointer (some ⟨b6, 0, none⟩), .pointer (some ⟨b5, 0, none⟩)] (show Sat W w [pto b1 (.cells #[.slice Ab bs.length cb, .slice Ac cs.length cc, .slice Af first.length cf, .slice Ai inner.length ci, .slice Al last.length cl] 76), pto b3 (.cells #[.slice none (([] : List GotD)).length 0] 64), row 66 3 (.slice none (([] : List GotD)).length 0) (([] : List GotD)).length ((([] : List GotD)).flatMap encG), pto b4 (.cells #[.slice none (([] : List GotD)).length 0] 64), row 66 3 (.slice none (([] : List GotD)).length 0) (([] : List GotD)).length ((([] : List GotD)).flatMap encG), pto b6 (.cells #[.int .i64 0] 23), pto b5 (.cells #[.bool false] 4), row 5 1 (.slice A22 bs.length c22) bs.length (bs.map bcell)] from ((((((((((hS.row_nil 66 3).row_nil 66 3).p 2).p 4).p 4).p 4).p 5).p 5).p 6).p 7)) (by omega) T.en36 (fun w r q p hS => Out_calls _ _ _ r q p b1 b3 b4 b6 b5 Ab Ac Af Ai Al cb cc cf ci cl bs cs first inner last A22 c22 bs hS (by omega) (by omega) (fun w h => h.rd) hRc hQf hQi hQl hwf hwi hwl (by omega) (by omega) (by omega))) ?_
  clear hA a; rintro e w ⟨r, q, p, at', err, ok, M, rfl, hS, gg, gi, A2, c2, A3, c3, x, b, rfl, hN⟩; obtain ⟨ee, hee⟩ : ∃ ee, ee = finR ok err at' bs.length := ⟨_, rfl⟩; rw [← hee] at hN ⊢; clear hee; replace hS := hS.drop.drop.drop; change Sat W w [pto b1 (.cells #[.slice Ab bs.length cb, .slice Ac cs.length cc, .slice Af first.length cf, .slice Ai inner.length ci, .slice Al last.length cl] 76), pto b3 (.cells #[.slice A2 (gg).length c2] 64), row 66 3 (.slice A2 (gg).length c2) (gg).length ((gg).flatMap encG), pto b4 (.cells #[.slice A3 (gi).length c3] 64), row 66 3 (.slice A3 (gi).length c3) (gi).length ((gi).flatMap encG), pto b6 (.cells #[.int .i64 x] 23), pto b5 (.cells #[.bool b] 4), row 5 1 (.slice A22 bs.length c22) bs.length (bs.map bcell)] at hS; have hnl := nestO_len (bs := bs) (cs := cs) (first := first) (inner := inner) (last := last); rw [hN] at hnl; dsimp only at hnl; obtain ⟨hnl1, hnl2⟩ := hnl; obtain ⟨g7, hg7⟩ : ∃ g : GotD, g = ⟨7, false, ⟨#[]⟩⟩ := ⟨_, rfl⟩; have hg7n : g7.n = 7 := (by rw [hg7])
  refine ⟨_, rfl, ?_⟩; intro a hA
  refine go1 hA rfl rfl rfl (r_assign (hA.ev rfl)) ?_; clear hA a; intro a hA
  refine wpList_nil ?_
  refine hk5 _ _ ?_
  clear hk5 k5
  replace hA := hA.keep (.cons (i := 1) rfl (.cons (i := 2) rfl (.cons (i := 3) rfl (.cons (i := 4) rfl (.cons (i := 5) rfl (.cons (i := 6) rfl (.cons (i := 7) rfl .nil)))))))
  refine wp_seq_k fun k6 hk6 => ?_
  refine wp_region_lit ?_
  refine goL hA rfl rfl T.un22 T.el5 rfl rfl rfl (by simp [Value.oneCell']) hS ?_
  clear hA a hS; intro A25 w hS a hA
  refine go1 hA rfl rfl rfl (r_mkF (hA.evl rfl)) ?_; clear hA a; intro a hA
  refine goF hA rfl T.en26 rfl (Read_calls _ _ _ A25 1 [7] (fun _ at' err ok M => ok = true ∧ err = 0 ∧ at' = 1 ∧ ∃ (A' : Option Addr) (c' : Nat), M = pto b3 (.cells #[.slice A' ((gg ++ [g7])).length c'] 64) :: row 66 3 (.slice A' ((gg ++ [g7])).length c') ((gg ++ [g7])).length (((gg ++ [g7])).flatMap encG) :: [row 5 1 (.slice A25 1 1) 1 [.int .u8 7], pto b1 (.cells #[.slice Ab bs.length cb, .slice Ac cs.length cc, .slice Af first.length cf, .slice Ai inner.length ci, .slice Al last.length cl] 76), pto b4 (.cells #[.slice A3 (gi).length c3] 64), row 66 3 (.slice A3 (gi).length c3) (gi).length ((gi).flatMap encG), pto b6 (.cells #[.int .i64 x] 23), pto b5 (.cells #[.bool b] 4), row 5 1 (.slice A22 bs.length c22) bs.length (bs.map bcell)]) 38 [.pointer (some ⟨b3, 0, none⟩)] ((((((((((hS.p 8).p 8).p 8).p 8).p 8).p 6).p 6).p 8).p 8)) (by simp) T.en38 (fun w r q p hS => (WN2_calls _ _ _ r q p b3 A25 1 [7] A2 c2 gg g7 1 hS (by simp) (by omega) (fun w h => h.rd) (by rw [hg7]; rfl)).mono fun e w' ⟨A', c', he, hS⟩ => ⟨1, 0, true, _, .inl ⟨rfl, he⟩, hS, rfl, rfl, rfl, A', c', rfl⟩)) ?_
  clear hA a; rintro e w ⟨r, q, p, at', err, ok, M, he, hS, rfl, rfl, rfl, A7, c7, rfl⟩; rw [show finR true 0 1 ([7] : List UInt8).length = 0 from by decide] at he; subst he; replace hS := hS.drop.drop.drop; have hg1 : (gg ++ [g7]).length = gg.length + 1 := (by simp)
  refine ⟨_, rfl, ?_⟩; intro a hA
  refine go1 hA rfl rfl rfl (r_assign (hA.ev rfl)) ?_; clear hA a; intro a hA
  refine wpList_nil ?_
  refine hk6 _ _ ?_
  clear hk6 k6
  replace hA := hA.keep (.cons (i := 1) rfl (.cons (i := 2) rfl (.cons (i := 3) rfl (.cons (i := 4) rfl (.cons (i := 5) rfl (.cons (i := 6) rfl (.cons (i := 7) rfl (.cons (i := 8) rfl .nil))))))))
  refine wp_seq_k fun k7 hk7 => ?_
  refine wp_seq_k fun k8 hk8 => ?_
  refine wp_region_lit ?_
  refine go1 hA rfl rfl rfl (r_move (hA.ev rfl)) ?_; clear hA a; intro a hA
  refine go1 hA rfl rfl rfl (as_f (r_neq (hA.ev rfl) (hA.ev rfl)) (by omega)) ?_; clear hA a; intro a hA
  refine go1 hA rfl rfl rfl (r_move (hA.ev rfl)) ?_; clear hA a; intro a hA
  refine go1y hA (wanted_yes hA rfl rfl rfl) rfl rfl (r_load (hA.ev rfl) T.fl64 (by first | exact hS.cell rfl | exact (hS.p 1).cell rfl | exact (hS.p 2).cell rfl | exact (hS.p 3).cell rfl | exact (hS.p 4).cell rfl | exact (hS.p 5).cell rfl | exact (hS.p 6).cell rfl | exact (hS.p 7).cell rfl | exact (hS.p 8).cell rfl | exact (hS.p 9).cell rfl | exact (hS.p 10).cell rfl | exact (hS.p 11).cell rfl | exact (hS.p 12).cell rfl | exact (hS.p 13).cell rfl)) ?_; clear hA a; intro a hA
  refine go1y hA (wanted_yes hA rfl rfl rfl) rfl rfl (r_lens (hA.ev rfl) T.un64) ?_; clear hA a; intro a hA
  refine go1y hA (wanted_yes hA rfl rfl rfl) rfl rfl (as_f (r_eql (hA.ev rfl) (hA.ev rfl)) (by omega)) ?_; clear hA a; intro a hA
  refine go1 hA rfl rfl rfl (r_pick_f (hA.ev rfl) (hA.ev rfl)) ?_; clear hA a; intro a hA
  refine go1 hA rfl rfl rfl (r_move (hA.ev rfl)) ?_; clear hA a; intro a hA
  refine go1y hA (wanted_yes hA rfl rfl rfl) rfl rfl (r_load (hA.ev rfl) T.fl64 (by first | exact hS.cell rfl | exact (hS.p 1).cell rfl | exact (hS.p 2).cell rfl | exact (hS.p 3).cell rfl | exact (hS.p 4).cell rfl | exact (hS.p 5).cell rfl | exact (hS.p 6).cell rfl | exact (hS.p 7).cell rfl | exact (hS.p 8).cell rfl | exact (hS.p 9).cell rfl | exact (hS.p 10).cell rfl | exact (hS.p 11).cell rfl | exact (hS.p 12).cell rfl | exact (hS.p 13).cell rfl)) ?_; clear hA a; intro a hA
  refine go1y hA (wanted_yes hA rfl rfl rfl) rfl rfl (r_load (hA.ev rfl) T.fl64 (by first | exact hS.cell rfl | exact (hS.p 1).cell rfl | exact (hS.p 2).cell rfl | exact (hS.p 3).cell rfl | exact (hS.p 4).cell rfl | exact (hS.p 5).cell rfl | exact (hS.p 6).cell rfl | exact (hS.p 7).cell rfl | exact (hS.p 8).cell rfl | exact (hS.p 9).cell rfl | exact (hS.p 10).cell rfl | exact (hS.p 11).cell rfl | exact (hS.p 12).cell rfl | exact (hS.p 13).cell rfl)) ?_; clear hA a; intro a hA
  refine go1y hA (wanted_yes hA rfl rfl rfl) rfl rfl (r_lens (hA.ev rfl) T.un64) ?_; clear hA a; intro a hA
  refine go1y hA (wanted_yes hA rfl rfl rfl) rfl rfl (r_sub64 (hA.ev rfl) (hA.ev rfl) (by omega) (by omega)) ?_; clear hA a; intro a hA
  obtain ⟨A7_p, rfl⟩ : ∃ q, A7 = some q := (hS.p 1).rd.hasAddr (by omega)
  obtain ⟨y, hy⟩ : ∃ x, (gg ++ [g7])[((gg ++ [g7]).length - 1 : Int).toNat]? = some x := ⟨_, List.getElem?_eq_getElem (by omega)⟩
  obtain rfl : g7 = y := by rw [show ((gg ++ [g7]).length - 1 : Int).toNat = gg.length from by rw [hg1]; omega] at hy; simp at hy; exact hy
  refine go1y hA (wanted_yes hA rfl rfl rfl) rfl rfl (r_index (hA.ev rfl) (hA.ev rfl) T.un64 T.sz66 (by omega) (by omega)) ?_; clear hA a; intro a hA
  refine go1y hA (wanted_yes hA rfl rfl rfl) rfl rfl (r_fieldP (hA.ev rfl) T.fo66_0) ?_; clear hA a; intro a hA
  refine go1y hA (wanted_yes hA rfl rfl rfl) rfl rfl (r_load (hA.ev rfl) T.fl3 (rdl2 (hS.p 1).rd (got_at hy 0 _ rfl))) ?_; clear hA a; intro a hA
  refine go1y hA (wanted_yes hA rfl rfl rfl) rfl rfl (as_f (r_neq (hA.ev rfl) (hA.ev rfl)) (by omega)) ?_; clear hA a; intro a hA
  refine go1 hA rfl rfl rfl (r_pick_f (hA.ev rfl) (hA.ev rfl)) ?_; clear hA a; intro a hA
  refine wpList_nil ?_
  refine hk8 _ _ ?_
  clear hk8 k8
  replace hA := hA.keep (.cons (i := 1) rfl (.cons (i := 2) rfl (.cons (i := 3) rfl (.cons (i := 4) rfl (.cons (i := 5) rfl (.cons (i := 6) rfl (.cons (i := 7) rfl (.cons (i := 44) rfl .nil))))))))
  refine wp_cond_false (hA.ev rfl) ?_
  refine wp_skip ?_
  refine hk7 _ _ ?_
  clear hk7 k7
  replace hA := hA.keep (.cons (i := 1) rfl (.cons (i := 2) rfl (.cons (i := 3) rfl (.cons (i := 4) rfl (.cons (i := 5) rfl (.cons (i := 6) rfl (.cons (i := 7) rfl .nil)))))))
  refine wp_seq_k fun k9 hk9 => ?_
  refine wp_region_lit ?_
  obtain ⟨_, c7_, hc70, hc7⟩ := (hS.p 1).rd.form
  replace hc7 : (gg ++ [g7]).length ≤ c7 := by injection hc70; omega
  refine go1 hA rfl rfl rfl (r_load (hA.ev rfl) T.fl64 (by first | exact hS.cell rfl | exact (hS.p 1).cell rfl | exact (hS.p 2).cell rfl | exact (hS.p 3).cell rfl | exact (hS.p 4).cell rfl | exact (hS.p 5).cell rfl | exact (hS.p 6).cell rfl | exact (hS.p 7).cell rfl | exact (hS.p 8).cell rfl | exact (hS.p 9).cell rfl | exact (hS.p 10).cell rfl | exact (hS.p 11).cell rfl | exact (hS.p 12).cell rfl | exact (hS.p 13).cell rfl)) ?_; clear hA a; intro a hA
  refine go1 hA rfl rfl rfl (r_load (hA.ev rfl) T.fl64 (by first | exact hS.cell rfl | exact (hS.p 1).cell rfl | exact (hS.p 2).cell rfl | exact (hS.p 3).cell rfl | exact (hS.p 4).cell rfl | exact (hS.p 5).cell rfl | exact (hS.p 6).cell rfl | exact (hS.p 7).cell rfl | exact (hS.p 8).cell rfl | exact (hS.p 9).cell rfl | exact (hS.p 10).cell rfl | exact (hS.p 11).cell rfl | exact (hS.p 12).cell rfl | exact (hS.p 13).cell rfl)) ?_; clear hA a; intro a hA
  refine go1 hA rfl rfl rfl (r_lens (hA.ev rfl) T.un64) ?_; clear hA a; intro a hA
  refine go1 hA rfl rfl rfl (as_val (r_sub64 (hA.ev rfl) (hA.ev rfl) (by omega) (by omega)) (show _ = Value.int .i64 ((gg.length : Nat) : Int) from by congr 1; rw [hg1]; omega)) ?_; clear hA a; intro a hA
  refine go1 hA rfl rfl rfl (as_val (r_slice_h (hA.ev rfl) (hA.ev rfl) T.un64 T.sz66 (by omega) (by omega)) (show _ = Value.slice (cutA (some A7_p) c7 3 0) gg.length c7 from by simp)) ?_; clear hA a; intro a hA
  first | refine goW2 (cs' := [_]) hA rfl rfl T.fl64 T.sz64 rfl hS rfl rfl ?_ | refine goW2 (cs' := [_]) hA rfl rfl T.fl64 T.sz64 rfl (hS.p 1) rfl rfl ?_ | refine goW2 (cs' := [_]) hA rfl rfl T.fl64 T.sz64 rfl (hS.p 2) rfl rfl ?_ | refine goW2 (cs' := [_]) hA rfl rfl T.fl64 T.sz64 rfl (hS.p 3) rfl rfl ?_ | refine goW2 (cs' := [_]) hA rfl rfl T.fl64 T.sz64 rfl (hS.p 4) rfl rfl ?_ | refine goW2 (cs' := [_]) hA rfl rfl T.fl64 T.sz64 rfl (hS.p 5) rfl rfl ?_ | refine goW2 (cs' := [_]) hA rfl rfl T.fl64 T.sz64 rfl (hS.p 6) rfl rfl ?_ | refine goW2 (cs' := [_]) hA rfl rfl T.fl64 T.sz64 rfl (hS.p 7) rfl rfl ?_ | refine goW2 (cs' := [_]) hA rfl rfl T.fl64 T.sz64 rfl (hS.p 8) rfl rfl ?_ | refine goW2 (cs' := [_]) hA rfl rfl T.fl64 T.sz64 rfl (hS.p 9) rfl rfl ?_ | refine goW2 (cs' := [_]) hA rfl rfl T.fl64 T.sz64 rfl (hS.p 10) rfl rfl ?_ | refine goW2 (cs' := [_]) hA rfl rfl T.fl64 T.sz64 rfl (hS.p 11) rfl rfl ?_ | refine goW2 (cs' := [_]) hA rfl rfl T.fl64 T.sz64 rfl (hS.p 12) rfl rfl ?_ | refine goW2 (cs' := [_]) hA rfl rfl T.fl64 T.sz64 rfl (hS.p 13) rfl rfl ?_
  clear hS; intro w hS
  refine wpList_nil ?_
  refine hk9 _ _ ?_
  clear hk9 k9
  replace hA := hA.keep (.cons (i := 1) rfl (.cons (i := 2) rfl (.cons (i := 3) rfl (.cons (i := 4) rfl (.cons (i := 5) rfl (.cons (i := 6) rfl (.cons (i := 7) rfl .nil)))))))
  refine wp_seq_k fun k10 hk10 => ?_
  refine wp_region_lit ?_
  refine go1 hA rfl rfl rfl (r_field (hA.ev rfl) T.fo76_0) ?_; clear hA a; intro a hA
  refine go1 hA rfl rfl rfl (r_load (hA.ev rfl) T.fl22 (by first | exact hS.cell rfl | exact (hS.p 1).cell rfl | exact (hS.p 2).cell rfl | exact (hS.p 3).cell rfl | exact (hS.p 4).cell rfl | exact (hS.p 5).cell rfl | exact (hS.p 6).cell rfl | exact (hS.p 7).cell rfl | exact (hS.p 8).cell rfl | exact (hS.p 9).cell rfl | exact (hS.p 10).cell rfl | exact (hS.p 11).cell rfl | exact (hS.p 12).cell rfl | exact (hS.p 13).cell rfl)) ?_; clear hA a; intro a hA
  refine go1 hA rfl rfl rfl (r_field (hA.ev rfl) T.fo76_2) ?_; clear hA a; intro a hA
  refine go1 hA rfl rfl rfl (r_load (hA.ev rfl) T.fl63 (by first | exact hS.cell rfl | exact (hS.p 1).cell rfl | exact (hS.p 2).cell rfl | exact (hS.p 3).cell rfl | exact (hS.p 4).cell rfl | exact (hS.p 5).cell rfl | exact (hS.p 6).cell rfl | exact (hS.p 7).cell rfl | exact (hS.p 8).cell rfl | exact (hS.p 9).cell rfl | exact (hS.p 10).cell rfl | exact (hS.p 11).cell rfl | exact (hS.p 12).cell rfl | exact (hS.p 13).cell rfl)) ?_; clear hA a; intro a hA
  refine goF hA rfl T.en39 rfl (From_calls _ Ab cb bs 0 _ _ first (hRb.sat hS) (Nat.zero_le _) (by omega) (hQf.sat hS) hwf (by omega)) ?_
  clear hA a; rintro e w ⟨A5, c5, rfl, hp5, hT⟩; replace hS := hS.rebase1 hT; clear hT; obtain ⟨want, at_, f, hF⟩ : ∃ gs_ i_ er_, fromA bs 0 first = (gs_, i_, er_) := ⟨_, _, _, rfl⟩; rw [hF] at hS hp5 ⊢; dsimp only at hS hp5 ⊢; have hle5 := from_len bs first 0; rw [hF] at hle5; dsimp only at hle5
  refine ⟨_, rfl, ?_⟩; intro a hA
  refine go1 hA rfl rfl rfl (r_move (hA.ev rfl)) ?_; clear hA a; intro a hA
  refine go1 hA rfl rfl rfl (r_ext (hA.ev rfl) rfl) ?_; clear hA a; intro a hA
  refine go1 hA rfl rfl rfl (r_ext (hA.ev rfl) rfl) ?_; clear hA a; intro a hA
  refine go1 hA rfl rfl rfl (r_ext (hA.ev rfl) rfl) ?_; clear hA a; intro a hA
  refine go1 hA rfl rfl rfl (r_assign (hA.ev rfl)) ?_; clear hA a; intro a hA
  refine go1 hA rfl rfl rfl (r_assign (hA.ev rfl)) ?_; clear hA a; intro a hA
  refine go1 hA rfl rfl rfl (r_assign (hA.ev rfl)) ?_; clear hA a; intro a hA
  refine wpList_nil ?_
  refine hk10 _ _ ?_
  clear hk10 k10
  replace hA := hA.keep (.cons (i := 1) rfl (.cons (i := 2) rfl (.cons (i := 3) rfl (.cons (i := 4) rfl (.cons (i := 5) rfl (.cons (i := 6) rfl (.cons (i := 7) rfl (.cons (i := 9) rfl (.cons (i := 10) rfl (.cons (i := 11) rfl .nil))))))))))
  refine wp_seq_k fun k11 hk11 => ?_
  refine wp_seq_k fun k12 hk12 => ?_
  refine wp_region_lit ?_
  refine go1 hA rfl rfl rfl (r_move (hA.ev rfl)) ?_; clear hA a; intro a hA
  refine go1s hA rfl rfl rfl (r_neq (hA.ev rfl) (hA.ev rfl)) ?_ ?_
  · clear hA a; intro h60 a hA
    have hz : ([] : List GotD).length = 0 := rfl
    rw [nestO_err hF (by omega)] at hN
    simp only [Prod.mk.injEq] at hN
    obtain ⟨rfl, rfl, rfl, rfl, rfl⟩ := hN
    try (first | contradiction | (exfalso; omega) | (exfalso; simp at h60; done))
    all_goals
     skip
     refine wpList_nil ?_
     refine hk12 _ _ ?_
     clear hk12 k12
     replace hA := hA.keep (.cons (i := 1) rfl (.cons (i := 2) rfl (.cons (i := 3) rfl (.cons (i := 4) rfl (.cons (i := 5) rfl (.cons (i := 6) rfl (.cons (i := 7) rfl (.cons (i := 9) rfl (.cons (i := 10) rfl (.cons (i := 11) rfl (.cons (i := 60) rfl .nil)))))))))))
     refine wp_cond_true (hA.ev rfl) ?_
     refine wp_seq_k fun k13 hk13 => ?_
     refine wp_region_lit ?_
     refine go1 hA rfl rfl rfl (r_load (hA.ev rfl) T.fl4 (by first | exact hS.cell rfl | exact (hS.p 1).cell rfl | exact (hS.p 2).cell rfl | exact (hS.p 3).cell rfl | exact (hS.p 4).cell rfl | exact (hS.p 5).cell rfl | exact (hS.p 6).cell rfl | exact (hS.p 7).cell rfl | exact (hS.p 8).cell rfl | exact (hS.p 9).cell rfl | exact (hS.p 10).cell rfl | exact (hS.p 11).cell rfl | exact (hS.p 12).cell rfl | exact (hS.p 13).cell rfl)) ?_; clear hA a; intro a hA
     refine go1 hA rfl rfl rfl (r_not (hA.ev rfl)) ?_; clear hA a; intro a hA
     refine go1 hA rfl rfl rfl (r_move (hA.ev rfl)) ?_; clear hA a; intro a hA
     refine go1y hA (wanted_yes hA rfl rfl rfl) rfl rfl (r_move (hA.ev rfl)) ?_; clear hA a; intro a hA
     refine go1y hA (wanted_yes hA rfl rfl rfl) rfl rfl (r_move (hA.ev rfl)) ?_; clear hA a; intro a hA
     refine go1y hA (wanted_yes hA rfl rfl rfl) rfl rfl (as_t (r_eql (hA.ev rfl) (hA.ev rfl)) (by omega)) ?_; clear hA a; intro a hA
     refine go1 hA rfl rfl rfl (r_pick_t (hA.ev rfl) (hA.ev rfl)) ?_; clear hA a; intro a hA
     refine go1 hA rfl rfl rfl (r_move (hA.ev rfl)) ?_; clear hA a; intro a hA
     refine go1y hA (wanted_yes hA rfl rfl rfl) rfl rfl (r_load (hA.ev rfl) T.fl64 (by first | exact hS.cell rfl | exact (hS.p 1).cell rfl | exact (hS.p 2).cell rfl | exact (hS.p 3).cell rfl | exact (hS.p 4).cell rfl | exact (hS.p 5).cell rfl | exact (hS.p 6).cell rfl | exact (hS.p 7).cell rfl | exact (hS.p 8).cell rfl | exact (hS.p 9).cell rfl | exact (hS.p 10).cell rfl | exact (hS.p 11).cell rfl | exact (hS.p 12).cell rfl | exact (hS.p 13).cell rfl)) ?_; clear hA a; intro a hA
     refine go1y hA (wanted_yes hA rfl rfl rfl) rfl rfl (r_move (hA.ev rfl)) ?_; clear hA a; intro a hA
     refine goFy hA (wanted_yes hA rfl rfl rfl) rfl T.en34 rfl (alike_calls _ _ _ _ _ want (got_cut (hS.p 2).rd) hS.rd (by first | omega | (simp; omega))) ?_
     clear hA a; rintro e w ⟨rfl, hT⟩; replace hS : Sat _ _ (_ :: _) := hS.rebase hT; clear hT
     refine ⟨_, rfl, ?_⟩; intro a hA
     refine go1 hA rfl rfl rfl (r_pick_t (hA.ev rfl) (hA.ev rfl)) ?_; clear hA a; intro a hA
     refine go1 hA rfl rfl rfl (r_move (hA.ev rfl)) ?_; clear hA a; intro a hA
     refine go1y hA (wanted_yes hA rfl rfl rfl) rfl rfl (r_load (hA.ev rfl) T.fl64 (by first | exact hS.cell rfl | exact (hS.p 1).cell rfl | exact (hS.p 2).cell rfl | exact (hS.p 3).cell rfl | exact (hS.p 4).cell rfl | exact (hS.p 5).cell rfl | exact (hS.p 6).cell rfl | exact (hS.p 7).cell rfl | exact (hS.p 8).cell rfl | exact (hS.p 9).cell rfl | exact (hS.p 10).cell rfl | exact (hS.p 11).cell rfl | exact (hS.p 12).cell rfl | exact (hS.p 13).cell rfl)) ?_; clear hA a; intro a hA
     refine go1y hA (wanted_yes hA rfl rfl rfl) rfl rfl (r_lens (hA.ev rfl) T.un64) ?_; clear hA a; intro a hA
     refine go1y hA (wanted_yes hA rfl rfl rfl) rfl rfl (as_t (r_eql (hA.ev rfl) (hA.ev rfl)) (by omega)) ?_; clear hA a; intro a hA
     refine go1 hA rfl rfl rfl (r_pick_t (hA.ev rfl) (hA.ev rfl)) ?_; clear hA a; intro a hA
     refine go1 hA rfl rfl rfl (r_assign (hA.ev rfl)) ?_; clear hA a; intro a hA
     refine wpList_nil ?_
     refine hk13 _ _ ?_
     clear hk13 k13
     replace hA := hA.keep (.cons (i := 1) rfl (.cons (i := 2) rfl (.cons (i := 3) rfl (.cons (i := 4) rfl (.cons (i := 5) rfl (.cons (i := 6) rfl (.cons (i := 7) rfl (.cons (i := 9) rfl (.cons (i := 10) rfl (.cons (i := 11) rfl .nil))))))))))
     refine wp_ret ?_
     refine then_ret ?_; clear hk11 k11
     refine end1 hA rfl rfl ?_
     exact ⟨rfl, Sat.none_ hS⟩
  · clear hA a; intro h60 a hA
    obtain rfl : f = 0 := by omega
    try (first | contradiction | (exfalso; omega) | (exfalso; simp at h60; done))
    all_goals
     skip
     refine wpList_nil ?_
     refine hk12 _ _ ?_
     clear hk12 k12
     replace hA := hA.keep (.cons (i := 1) rfl (.cons (i := 2) rfl (.cons (i := 3) rfl (.cons (i := 4) rfl (.cons (i := 5) rfl (.cons (i := 6) rfl (.cons (i := 7) rfl (.cons (i := 9) rfl (.cons (i := 10) rfl (.cons (i := 11) rfl (.cons (i := 60) rfl .nil)))))))))))
     refine wp_cond_false (hA.ev rfl) ?_
     refine wp_skip ?_
     refine hk11 _ _ ?_
     clear hk11 k11
     replace hA := hA.keep (.cons (i := 1) rfl (.cons (i := 2) rfl (.cons (i := 3) rfl (.cons (i := 4) rfl (.cons (i := 5) rfl (.cons (i := 6) rfl (.cons (i := 7) rfl (.cons (i := 9) rfl (.cons (i := 10) rfl (.cons (i := 11) rfl .nil))))))))))
     refine wp_seq_k fun k14 hk14 => ?_
     refine wp_region_lit ?_
     refine go1 hA rfl rfl rfl (r_field (hA.ev rfl) T.fo76_1) ?_; clear hA a; intro a hA
     refine go1 hA rfl rfl rfl (r_load (hA.ev rfl) T.fl22 (by first | exact hS.cell rfl | exact (hS.p 1).cell rfl | exact (hS.p 2).cell rfl | exact (hS.p 3).cell rfl | exact (hS.p 4).cell rfl | exact (hS.p 5).cell rfl | exact (hS.p 6).cell rfl | exact (hS.p 7).cell rfl | exact (hS.p 8).cell rfl | exact (hS.p 9).cell rfl | exact (hS.p 10).cell rfl | exact (hS.p 11).cell rfl | exact (hS.p 12).cell rfl | exact (hS.p 13).cell rfl)) ?_; clear hA a; intro a hA
     refine go1 hA rfl rfl rfl (r_field (hA.ev rfl) T.fo76_3) ?_; clear hA a; intro a hA
     refine go1 hA rfl rfl rfl (r_load (hA.ev rfl) T.fl63 (by first | exact hS.cell rfl | exact (hS.p 1).cell rfl | exact (hS.p 2).cell rfl | exact (hS.p 3).cell rfl | exact (hS.p 4).cell rfl | exact (hS.p 5).cell rfl | exact (hS.p 6).cell rfl | exact (hS.p 7).cell rfl | exact (hS.p 8).cell rfl | exact (hS.p 9).cell rfl | exact (hS.p 10).cell rfl | exact (hS.p 11).cell rfl | exact (hS.p 12).cell rfl | exact (hS.p 13).cell rfl)) ?_; clear hA a; intro a hA
     refine goF hA rfl T.en39 rfl (From_calls _ Ac cc cs 0 _ _ inner (hRc.sat hS) (Nat.zero_le _) (by omega) (hQi.sat hS) hwi (by omega)) ?_
     clear hA a; rintro e w ⟨A8, c8, rfl, hp8, hT⟩; replace hS := hS.rebase1 hT; clear hT; obtain ⟨win, cat, g, hG⟩ : ∃ gs_ i_ er_, fromA cs 0 inner = (gs_, i_, er_) := ⟨_, _, _, rfl⟩; rw [hG] at hS hp8 ⊢; dsimp only at hS hp8 ⊢; have hle8 := from_len cs inner 0; rw [hG] at hle8; dsimp only at hle8
     refine ⟨_, rfl, ?_⟩; intro a hA
     refine go1 hA rfl rfl rfl (r_move (hA.ev rfl)) ?_; clear hA a; intro a hA
     refine go1 hA rfl rfl rfl (r_ext (hA.ev rfl) rfl) ?_; clear hA a; intro a hA
     refine go1 hA rfl rfl rfl (r_ext (hA.ev rfl) rfl) ?_; clear hA a; intro a hA
     refine go1 hA rfl rfl rfl (r_ext (hA.ev rfl) rfl) ?_; clear hA a; intro a hA
     refine go1 hA rfl rfl rfl (r_assign (hA.ev rfl)) ?_; clear hA a; intro a hA
     refine go1 hA rfl rfl rfl (r_assign (hA.ev rfl)) ?_; clear hA a; intro a hA
     refine go1 hA rfl rfl rfl (r_assign (hA.ev rfl)) ?_; clear hA a; intro a hA
     refine wpList_nil ?_
     refine hk14 _ _ ?_
     clear hk14 k14
     replace hA := hA.keep (.cons (i := 1) rfl (.cons (i := 2) rfl (.cons (i := 3) rfl (.cons (i := 4) rfl (.cons (i := 5) rfl (.cons (i := 6) rfl (.cons (i := 7) rfl (.cons (i := 9) rfl (.cons (i := 10) rfl (.cons (i := 11) rfl (.cons (i := 12) rfl (.cons (i := 13) rfl (.cons (i := 14) rfl .nil)))))))))))))
     refine wp_seq_k fun k15 hk15 => ?_
     refine wp_seq_k fun k16 hk16 => ?_
     refine wp_region_lit ?_
     obtain rfl : win = gi := by have h := nestO_in (last := last) hF hG; rw [hN] at h; exact h.symm
     refine go1 hA rfl rfl rfl (r_load (hA.ev rfl) T.fl64 (by first | exact hS.cell rfl | exact (hS.p 1).cell rfl | exact (hS.p 2).cell rfl | exact (hS.p 3).cell rfl | exact (hS.p 4).cell rfl | exact (hS.p 5).cell rfl | exact (hS.p 6).cell rfl | exact (hS.p 7).cell rfl | exact (hS.p 8).cell rfl | exact (hS.p 9).cell rfl | exact (hS.p 10).cell rfl | exact (hS.p 11).cell rfl | exact (hS.p 12).cell rfl | exact (hS.p 13).cell rfl)) ?_; clear hA a; intro a hA
     refine go1 hA rfl rfl rfl (r_move (hA.ev rfl)) ?_; clear hA a; intro a hA
     refine goF hA rfl T.en34 rfl (alike_calls _ _ _ _ _ win (hS.p 7).rd hS.rd (by first | omega | (simp; omega))) ?_
     clear hA a; rintro e w ⟨rfl, hT⟩; replace hS : Sat _ _ (_ :: _) := hS.rebase hT; clear hT
     refine ⟨_, rfl, ?_⟩; intro a hA
     refine go1 hA rfl rfl rfl (r_not (hA.ev rfl)) ?_; clear hA a; intro a hA
     refine wpList_nil ?_
     refine hk16 _ _ ?_
     clear hk16 k16
     replace hA := hA.keep (.cons (i := 1) rfl (.cons (i := 2) rfl (.cons (i := 3) rfl (.cons (i := 5) rfl (.cons (i := 6) rfl (.cons (i := 7) rfl (.cons (i := 9) rfl (.cons (i := 10) rfl (.cons (i := 11) rfl (.cons (i := 13) rfl (.cons (i := 14) rfl (.cons (i := 90) rfl .nil))))))))))))
     refine wp_cond_false (hA.ev rfl) ?_
     refine wp_skip ?_
     refine hk15 _ _ ?_
     clear hk15 k15
     replace hA := hA.keep (.cons (i := 1) rfl (.cons (i := 2) rfl (.cons (i := 3) rfl (.cons (i := 5) rfl (.cons (i := 6) rfl (.cons (i := 7) rfl (.cons (i := 9) rfl (.cons (i := 10) rfl (.cons (i := 11) rfl (.cons (i := 13) rfl (.cons (i := 14) rfl .nil)))))))))))
     refine wp_seq_k fun k17 hk17 => ?_
     refine wp_seq_k fun k18 hk18 => ?_
     refine wp_region_lit ?_
     refine go1 hA rfl rfl rfl (r_move (hA.ev rfl)) ?_; clear hA a; intro a hA
     refine go1s hA rfl rfl rfl (r_eql (hA.ev rfl) (hA.ev rfl)) ?_ ?_
     · clear hA a; intro h92 a hA
       obtain rfl : g = 0 := by omega
       try (first | contradiction | (exfalso; omega) | (exfalso; simp at h92; done))
       all_goals
        skip
        refine wpList_nil ?_
        refine hk18 _ _ ?_
        clear hk18 k18
        replace hA := hA.keep (.cons (i := 1) rfl (.cons (i := 2) rfl (.cons (i := 3) rfl (.cons (i := 5) rfl (.cons (i := 6) rfl (.cons (i := 7) rfl (.cons (i := 9) rfl (.cons (i := 10) rfl (.cons (i := 11) rfl (.cons (i := 13) rfl (.cons (i := 14) rfl (.cons (i := 92) rfl .nil))))))))))))
        refine wp_cond_true (hA.ev rfl) ?_
        refine wp_seq_k fun k19 hk19 => ?_
        refine wp_region_lit ?_
        refine go1 hA rfl rfl rfl (r_assign (hA.ev rfl)) ?_; clear hA a; intro a hA
        refine wpList_nil ?_
        refine hk19 _ _ ?_
        clear hk19 k19
        replace hA := hA.keep (.cons (i := 1) rfl (.cons (i := 2) rfl (.cons (i := 3) rfl (.cons (i := 5) rfl (.cons (i := 6) rfl (.cons (i := 7) rfl (.cons (i := 9) rfl (.cons (i := 10) rfl (.cons (i := 11) rfl (.cons (i := 13) rfl (.cons (i := 14) rfl (.cons (i := 15) rfl .nil))))))))))))
        refine wp_seq_k fun k20 hk20 => ?_
        refine wp_block ?_
        refine wp_loop_ghost (fun (mm : Nat) a w => ∃ (i : Nat), Ag a 170 [(1, .pointer (some ⟨b1, 0, none⟩)), (3, .pointer (some ⟨b3, 0, none⟩)), (5, .pointer (some ⟨b5, 0, none⟩)), (6, .pointer (some ⟨b6, 0, none⟩)), (7, .int .i64 ee), (9, .slice A5 want.length c5), (10, .int .i64 ((at_ : Nat) : Int)), (11, .int .i64 0), (13, .int .i64 ((cat : Nat) : Int)), (14, .int .i64 0), (15, .int .i64 ((i : Nat) : Int))] ∧ Sat W w ([row 66 3 (.slice A8 (win).length c8) (win).length ((win).flatMap encG), row 66 3 (.slice A5 (want).length c5) (want).length ((want).flatMap encG), pto b3 (.cells #[.slice (cutA (some A7_p) c7 3 0) gg.length c7] 64), row 66 3 (.slice (some A7_p) ((gg ++ [g7])).length c7) ((gg ++ [g7])).length (((gg ++ [g7])).flatMap encG), row 5 1 (.slice A25 1 1) 1 [.int .u8 7], pto b1 (.cells #[.slice Ab bs.length cb, .slice Ac cs.length cc, .slice Af first.length cf, .slice Ai inner.length ci, .slice Al last.length cl] 76), pto b4 (.cells #[.slice A3 (win).length c3] 64), row 66 3 (.slice A3 (win).length c3) (win).length ((win).flatMap encG), pto b6 (.cells #[.int .i64 x] 23), pto b5 (.cells #[.bool b] 4), row 5 1 (.slice A22 bs.length c22) bs.length (bs.map bcell)]) ∧ (i ≤ last.length) ∧ (i ≤ calmN last) ∧ mm = last.length - i) last.length ?_ ?_
        · replace hA := hA.keep (.cons (i := 1) rfl (.cons (i := 3) rfl (.cons (i := 5) rfl (.cons (i := 6) rfl (.cons (i := 7) rfl (.cons (i := 9) rfl (.cons (i := 10) rfl (.cons (i := 11) rfl (.cons (i := 13) rfl (.cons (i := 14) rfl (.cons (i := 15) rfl .nil)))))))))))
          exact ⟨0, hA, hS, (by omega), (by omega), by omega⟩
        intro m a w hI
        clear hS hA; obtain ⟨i, hA, hS, hi, hic, rfl⟩ := hI
        refine wp_seq_k fun k21 hk21 => ?_
        refine wp_seq_k fun k22 hk22 => ?_
        refine wp_region_lit ?_
        refine go1 hA rfl rfl rfl (r_move (hA.ev rfl)) ?_; clear hA a; intro a hA
        refine go1 hA rfl rfl rfl (r_field (hA.ev rfl) T.fo76_4) ?_; clear hA a; intro a hA
        refine go1 hA rfl rfl rfl (r_load (hA.ev rfl) T.fl63 (by first | exact hS.cell rfl | exact (hS.p 1).cell rfl | exact (hS.p 2).cell rfl | exact (hS.p 3).cell rfl | exact (hS.p 4).cell rfl | exact (hS.p 5).cell rfl | exact (hS.p 6).cell rfl | exact (hS.p 7).cell rfl | exact (hS.p 8).cell rfl | exact (hS.p 9).cell rfl | exact (hS.p 10).cell rfl | exact (hS.p 11).cell rfl | exact (hS.p 12).cell rfl | exact (hS.p 13).cell rfl)) ?_; clear hA a; intro a hA
        refine go1 hA rfl rfl rfl (r_lens (hA.ev rfl) T.un63) ?_; clear hA a; intro a hA
        refine go1s hA rfl rfl rfl (r_lss (hA.ev rfl) (hA.ev rfl)) ?_ ?_
        · clear hA a; intro h97 a hA
          try (first | contradiction | (exfalso; omega) | (exfalso; simp at h97; done))
          all_goals
           skip
           refine go1 hA rfl rfl rfl (r_move (hA.ev rfl)) ?_; clear hA a; intro a hA
           refine go1y hA (wanted_yes hA rfl rfl rfl) rfl rfl (r_field (hA.ev rfl) T.fo76_4) ?_; clear hA a; intro a hA
           refine go1y hA (wanted_yes hA rfl rfl rfl) rfl rfl (r_load (hA.ev rfl) T.fl63 (by first | exact hS.cell rfl | exact (hS.p 1).cell rfl | exact (hS.p 2).cell rfl | exact (hS.p 3).cell rfl | exact (hS.p 4).cell rfl | exact (hS.p 5).cell rfl | exact (hS.p 6).cell rfl | exact (hS.p 7).cell rfl | exact (hS.p 8).cell rfl | exact (hS.p 9).cell rfl | exact (hS.p 10).cell rfl | exact (hS.p 11).cell rfl | exact (hS.p 12).cell rfl | exact (hS.p 13).cell rfl)) ?_; clear hA a; intro a hA
           refine go1y hA (wanted_yes hA rfl rfl rfl) rfl rfl (r_move (hA.ev rfl)) ?_; clear hA a; intro a hA
           obtain ⟨Al_p, rfl⟩ : ∃ q, Al = some q := (hQl.sat hS).hasAddr (by omega)
           obtain ⟨x, hx⟩ : ∃ x, last[(i : Int).toNat]? = some x := ⟨_, List.getElem?_eq_getElem (by omega)⟩
           have hx' : last[i]? = some x := by rw [← hx]; congr 1
           obtain ⟨hw0, hw1⟩ := hwl x (List.mem_of_getElem? hx)
           refine go1y hA (wanted_yes hA rfl rfl rfl) rfl rfl (r_index (hA.ev rfl) (hA.ev rfl) T.un63 T.sz69 (by omega) (by omega)) ?_; clear hA a; intro a hA
           refine go1y hA (wanted_yes hA rfl rfl rfl) rfl rfl (r_fieldP (hA.ev rfl) T.fo69_0) ?_; clear hA a; intro a hA
           refine go1y hA (wanted_yes hA rfl rfl rfl) rfl rfl (r_load (hA.ev rfl) T.fl3 (rdl2 (hQl.sat hS) (ask_at hx 0 _ rfl))) ?_; clear hA a; intro a hA
           refine go1sy hA (wanted_yes hA rfl rfl rfl) rfl rfl (r_neq (hA.ev rfl) (hA.ev rfl)) ?_ ?_
           · clear hA a; intro h105 a hA
             have hcp := calm_pass hic hx' h105
             try (first | contradiction | (exfalso; omega) | (exfalso; simp at h105; done))
             all_goals
              skip
              refine go1 hA rfl rfl rfl (r_pick_t (hA.ev rfl) (hA.ev rfl)) ?_; clear hA a; intro a hA
              refine wpList_nil ?_
              refine hk22 _ _ ?_
              clear hk22 k22
              refine wp_cond_true (hA.ev rfl) ?_
              refine wp_skip ?_
              refine hk21 _ _ ?_
              clear hk21 k21
              refine wp_block ?_
              refine wp_region_lit ?_
              refine go1 hA rfl rfl rfl (r_move (hA.ev rfl)) ?_; clear hA a; intro a hA
              refine go1 hA rfl rfl rfl (r_add64 (hA.ev rfl) (hA.ev rfl) (by omega) (by omega)) ?_; clear hA a; intro a hA
              refine go1 hA rfl rfl rfl (r_assign (hA.ev rfl)) ?_; clear hA a; intro a hA
              refine wpList_nil ?_
              refine block_normal ?_
              replace hA := hA.keep (.cons (i := 1) rfl (.cons (i := 3) rfl (.cons (i := 5) rfl (.cons (i := 6) rfl (.cons (i := 7) rfl (.cons (i := 9) rfl (.cons (i := 10) rfl (.cons (i := 11) rfl (.cons (i := 13) rfl (.cons (i := 14) rfl (.cons (i := 15) rfl .nil)))))))))))
              refine ⟨_, ?_, i + 1, hA, hS, (by omega), (by omega), rfl⟩
              omega
           · clear hA a; intro h105 a hA
             have hcl : calmN last = i := calm_hit hic hx' (by omega)
             try (first | contradiction | (exfalso; omega) | (exfalso; simp at h105; done))
             all_goals
              skip
              refine go1 hA rfl rfl rfl (r_pick_t (hA.ev rfl) (hA.ev rfl)) ?_; clear hA a; intro a hA
              refine wpList_nil ?_
              refine hk22 _ _ ?_
              clear hk22 k22
              refine wp_cond_false (hA.ev rfl) ?_
              refine wp_exit ?_
              refine then_exit ?_; clear hk21 k21
              refine then_exit ?_
              refine block_hit ?_
              refine hk20 _ _ ?_
              clear hk20 k20
              replace hA := hA.keep (.cons (i := 1) rfl (.cons (i := 3) rfl (.cons (i := 5) rfl (.cons (i := 6) rfl (.cons (i := 7) rfl (.cons (i := 9) rfl (.cons (i := 10) rfl (.cons (i := 11) rfl (.cons (i := 13) rfl (.cons (i := 14) rfl (.cons (i := 15) rfl .nil)))))))))))
              refine wp_seq_k fun k23 hk23 => ?_
              refine xEnterE [7] hS (by kernel_rfl) ?_
              replace hS := hS.drew
              refine K.p1 0 hA (pok_then (pok_then pok_body)) rfl rfl rfl rfl (by kernel_rfl) (by kernel_rfl) (by kernel_rfl) (fun w => (r_field (hA.ev rfl) T.fo76_0)) ?_; clear hA a; intro a hA
              refine K.x1 1 hA (pok_then (pok_then pok_body)) rfl rfl rfl rfl (by kernel_rfl) (by kernel_rfl) (by kernel_rfl) (by kernel_rfl) (by kernel_rfl) (by first | exact ⟨[], hS⟩ | exact ⟨[_], hS⟩ | exact ⟨[_, _], hS⟩ | exact ⟨[_, _, _], hS⟩ | exact ⟨[_, _, _, _], hS⟩ | exact ⟨[_, _, _, _, _], hS⟩ | exact ⟨[_, _, _, _, _, _], hS⟩) (fun w hT => have hS := hT.sat; (r_load (hA.ev rfl) T.fl22 (by first | exact hS.cell rfl | exact (hS.p 1).cell rfl | exact (hS.p 2).cell rfl | exact (hS.p 3).cell rfl | exact (hS.p 4).cell rfl | exact (hS.p 5).cell rfl | exact (hS.p 6).cell rfl | exact (hS.p 7).cell rfl | exact (hS.p 8).cell rfl | exact (hS.p 9).cell rfl | exact (hS.p 10).cell rfl | exact (hS.p 11).cell rfl | exact (hS.p 12).cell rfl | exact (hS.p 13).cell rfl))) ?_; clear hA a; intro a hA
              refine K.p1 2 hA (pok_then (pok_then pok_body)) rfl rfl rfl rfl (by kernel_rfl) (by kernel_rfl) (by kernel_rfl) (fun w => (r_move (hA.ev rfl))) ?_; clear hA a; intro a hA
              refine K.p1 3 hA (pok_then (pok_then pok_body)) rfl rfl rfl rfl (by kernel_rfl) (by kernel_rfl) (by kernel_rfl) (fun w => (r_field (hA.ev rfl) T.fo76_4)) ?_; clear hA a; intro a hA
              refine K.x1 4 hA (pok_then (pok_then pok_body)) rfl rfl rfl rfl (by kernel_rfl) (by kernel_rfl) (by kernel_rfl) (by kernel_rfl) (by kernel_rfl) (by first | exact ⟨[], hS⟩ | exact ⟨[_], hS⟩ | exact ⟨[_, _], hS⟩ | exact ⟨[_, _, _], hS⟩ | exact ⟨[_, _, _, _], hS⟩ | exact ⟨[_, _, _, _, _], hS⟩ | exact ⟨[_, _, _, _, _, _], hS⟩) (fun w hT => have hS := hT.sat; (r_load (hA.ev rfl) T.fl63 (by first | exact hS.cell rfl | exact (hS.p 1).cell rfl | exact (hS.p 2).cell rfl | exact (hS.p 3).cell rfl | exact (hS.p 4).cell rfl | exact (hS.p 5).cell rfl | exact (hS.p 6).cell rfl | exact (hS.p 7).cell rfl | exact (hS.p 8).cell rfl | exact (hS.p 9).cell rfl | exact (hS.p 10).cell rfl | exact (hS.p 11).cell rfl | exact (hS.p 12).cell rfl | exact (hS.p 13).cell rfl))) ?_; clear hA a; intro a hA
              refine K.p1 5 hA (pok_then (pok_then pok_body)) rfl rfl rfl rfl (by kernel_rfl) (by kernel_rfl) (by kernel_rfl) (fun w => (r_move (hA.ev rfl))) ?_; clear hA a; intro a hA
              refine K.p1 6 hA (pok_then (pok_then pok_body)) rfl rfl rfl rfl (by kernel_rfl) (by kernel_rfl) (by kernel_rfl) (fun w => (as_val (r_slice_h (hA.ev rfl) (hA.ev rfl) T.un63 T.sz69 (by omega) (by omega)) (ask_slice (l := last) (n := i) (by omega)))) ?_; clear hA a; intro a hA
              refine xOne 7 (by kernel_rfl) ?_
              refine eF hA rfl rfl T.en39 rfl (From_calls _ Ab cb bs at_ _ _ (last.take i) (hRb.sat hS) hp5 (by omega) (ask_cut (hQl.sat hS) i (by omega)) (fun x hx => hwl x (List.mem_of_mem_take hx)) (by simp; omega)) ?_
              clear hA a; rintro e w ⟨A9, c9, rfl, hp9, hT⟩; replace hS := hS.rebase1 hT; clear hT; obtain ⟨more, nx, h, hM⟩ : ∃ gs_ i_ er_, fromA bs at_ (last.take i) = (gs_, i_, er_) := ⟨_, _, _, rfl⟩; rw [hM] at hS hp9 ⊢; dsimp only at hS hp9 ⊢; have hle9 := from_len bs (last.take i) at_; rw [hM] at hle9; dsimp only at hle9
              refine ⟨_, rfl, ?_⟩; intro a hA
              refine ⟨.inl rfl, ?_⟩
              refine K.p1 8 hA (pok_then (pok_then pok_body)) rfl rfl rfl rfl (by kernel_rfl) (by kernel_rfl) (by kernel_rfl) (fun w => (r_move (hA.ev rfl))) ?_; clear hA a; intro a hA
              refine K.p1 9 hA (pok_then (pok_then pok_body)) rfl rfl rfl rfl (by kernel_rfl) (by kernel_rfl) (by kernel_rfl) (fun w => (r_ext (hA.ev rfl) rfl)) ?_; clear hA a; intro a hA
              refine K.p1 10 hA (pok_then (pok_then pok_body)) rfl rfl rfl rfl (by kernel_rfl) (by kernel_rfl) (by kernel_rfl) (fun w => (r_ext (hA.ev rfl) rfl)) ?_; clear hA a; intro a hA
              refine K.p1 11 hA (pok_then (pok_then pok_body)) rfl rfl rfl rfl (by kernel_rfl) (by kernel_rfl) (by kernel_rfl) (fun w => (r_ext (hA.ev rfl) rfl)) ?_; clear hA a; intro a hA
              refine K.p1 12 hA (pok_then (pok_then pok_body)) rfl rfl rfl rfl (by kernel_rfl) (by kernel_rfl) (by kernel_rfl) (fun w => (r_assign (hA.ev rfl))) ?_; clear hA a; intro a hA
              refine K.p1 13 hA (pok_then (pok_then pok_body)) rfl rfl rfl rfl (by kernel_rfl) (by kernel_rfl) (by kernel_rfl) (fun w => (r_assign (hA.ev rfl))) ?_; clear hA a; intro a hA
              refine K.p1 14 hA (pok_then (pok_then pok_body)) rfl rfl rfl rfl (by kernel_rfl) (by kernel_rfl) (by kernel_rfl) (fun w => (r_assign (hA.ev rfl))) ?_; clear hA a; intro a hA
              refine wpAnyX_done (by kernel_rfl) ?_ _
              refine hk23 _ _ ?_
              clear hk23 k23
              replace hA := hA.keep (.cons (i := 1) rfl (.cons (i := 3) rfl (.cons (i := 5) rfl (.cons (i := 6) rfl (.cons (i := 7) rfl (.cons (i := 9) rfl (.cons (i := 10) rfl (.cons (i := 11) rfl (.cons (i := 13) rfl (.cons (i := 14) rfl (.cons (i := 15) rfl (.cons (i := 16) rfl (.cons (i := 17) rfl (.cons (i := 18) rfl .nil))))))))))))))
              refine wp_seq_k fun k24 hk24 => ?_
              refine wp_region_lit ?_
              refine go1 hA rfl rfl rfl (r_move (hA.ev rfl)) ?_; clear hA a; intro a hA
              refine go1 hA rfl rfl rfl (r_move (hA.ev rfl)) ?_; clear hA a; intro a hA
              have htk := List.length_take_le i last
              refine goA' hA rfl rfl rfl T.un64 T.el66 rfl (hS.p 2) (hS.rd.src T.un64 (got_one more)) (by omega) (by omega) ?_
              clear hA a hS; intro A123 c123 w hc123 hS a hA
              have ge123 : want.length + more.length = (want ++ more).length := by simp
              change Sat W w (row 66 3 (.slice A123 (want.length + more.length) c123) (want.length + more.length) (want.flatMap encG ++ more.flatMap encG) :: _) at hS
              rw [ge123, ← List.flatMap_append] at hS
              rw [ge123] at hA
              refine go1 hA rfl rfl rfl (r_assign (hA.ev rfl)) ?_; clear hA a; intro a hA
              refine wpList_nil ?_
              refine hk24 _ _ ?_
              clear hk24 k24
              replace hA := hA.keep (.cons (i := 1) rfl (.cons (i := 3) rfl (.cons (i := 5) rfl (.cons (i := 6) rfl (.cons (i := 7) rfl (.cons (i := 9) rfl (.cons (i := 10) rfl (.cons (i := 11) rfl (.cons (i := 13) rfl (.cons (i := 14) rfl (.cons (i := 15) rfl (.cons (i := 17) rfl (.cons (i := 18) rfl .nil)))))))))))))
              refine wp_seq_k fun k25 hk25 => ?_
              refine wp_seq_k fun k26 hk26 => ?_
              refine wp_region_lit ?_
              refine go1 hA rfl rfl rfl (r_move (hA.ev rfl)) ?_; clear hA a; intro a hA
              refine go1s hA rfl rfl rfl (r_neq (hA.ev rfl) (hA.ev rfl)) ?_ ?_
              · clear hA a; intro h125 a hA
                rw [nestO_out hF (nestIn_out hG (by rw [hcl]; exact hM) h125) h125] at hN
                simp only [Prod.mk.injEq] at hN
                obtain ⟨rfl, hgi2, rfl, rfl, rfl⟩ := hN
                try (first | contradiction | (exfalso; omega) | (exfalso; simp at h125; done))
                all_goals
                 skip
                 refine wpList_nil ?_
                 refine hk26 _ _ ?_
                 clear hk26 k26
                 replace hA := hA.keep (.cons (i := 1) rfl (.cons (i := 3) rfl (.cons (i := 5) rfl (.cons (i := 6) rfl (.cons (i := 7) rfl (.cons (i := 9) rfl (.cons (i := 10) rfl (.cons (i := 11) rfl (.cons (i := 13) rfl (.cons (i := 14) rfl (.cons (i := 15) rfl (.cons (i := 17) rfl (.cons (i := 18) rfl (.cons (i := 125) rfl .nil))))))))))))))
                 refine wp_cond_true (hA.ev rfl) ?_
                 refine wp_seq_k fun k27 hk27 => ?_
                 refine wp_region_lit ?_
                 refine go1 hA rfl rfl rfl (r_load (hA.ev rfl) T.fl4 (by first | exact hS.cell rfl | exact (hS.p 1).cell rfl | exact (hS.p 2).cell rfl | exact (hS.p 3).cell rfl | exact (hS.p 4).cell rfl | exact (hS.p 5).cell rfl | exact (hS.p 6).cell rfl | exact (hS.p 7).cell rfl | exact (hS.p 8).cell rfl | exact (hS.p 9).cell rfl | exact (hS.p 10).cell rfl | exact (hS.p 11).cell rfl | exact (hS.p 12).cell rfl | exact (hS.p 13).cell rfl)) ?_; clear hA a; intro a hA
                 refine go1 hA rfl rfl rfl (r_not (hA.ev rfl)) ?_; clear hA a; intro a hA
                 refine go1 hA rfl rfl rfl (r_move (hA.ev rfl)) ?_; clear hA a; intro a hA
                 refine go1y hA (wanted_yes hA rfl rfl rfl) rfl rfl (r_move (hA.ev rfl)) ?_; clear hA a; intro a hA
                 refine go1y hA (wanted_yes hA rfl rfl rfl) rfl rfl (r_move (hA.ev rfl)) ?_; clear hA a; intro a hA
                 refine go1y hA (wanted_yes hA rfl rfl rfl) rfl rfl (as_t (r_eql (hA.ev rfl) (hA.ev rfl)) (by omega)) ?_; clear hA a; intro a hA
                 refine go1 hA rfl rfl rfl (r_pick_t (hA.ev rfl) (hA.ev rfl)) ?_; clear hA a; intro a hA
                 refine go1 hA rfl rfl rfl (r_move (hA.ev rfl)) ?_; clear hA a; intro a hA
                 refine go1y hA (wanted_yes hA rfl rfl rfl) rfl rfl (r_load (hA.ev rfl) T.fl64 (by first | exact hS.cell rfl | exact (hS.p 1).cell rfl | exact (hS.p 2).cell rfl | exact (hS.p 3).cell rfl | exact (hS.p 4).cell rfl | exact (hS.p 5).cell rfl | exact (hS.p 6).cell rfl | exact (hS.p 7).cell rfl | exact (hS.p 8).cell rfl | exact (hS.p 9).cell rfl | exact (hS.p 10).cell rfl | exact (hS.p 11).cell rfl | exact (hS.p 12).cell rfl | exact (hS.p 13).cell rfl)) ?_; clear hA a; intro a hA
                 refine go1y hA (wanted_yes hA rfl rfl rfl) rfl rfl (r_move (hA.ev rfl)) ?_; clear hA a; intro a hA
                 refine goFy hA (wanted_yes hA rfl rfl rfl) rfl T.en34 rfl (alike_calls _ _ _ _ _ (want ++ more) (got_cut (hS.p 4).rd) hS.rd (by first | omega | (simp; omega))) ?_
                 clear hA a; rintro e w ⟨rfl, hT⟩; replace hS : Sat _ _ (_ :: _) := hS.rebase hT; clear hT
                 refine ⟨_, rfl, ?_⟩; intro a hA
                 refine go1 hA rfl rfl rfl (r_pick_t (hA.ev rfl) (hA.ev rfl)) ?_; clear hA a; intro a hA
                 refine go1 hA rfl rfl rfl (r_assign (hA.ev rfl)) ?_; clear hA a; intro a hA
                 refine wpList_nil ?_
                 refine hk27 _ _ ?_
                 clear hk27 k27
                 replace hA := hA.keep (.cons (i := 1) rfl (.cons (i := 2) rfl (.cons (i := 3) rfl (.cons (i := 5) rfl (.cons (i := 6) rfl (.cons (i := 7) rfl (.cons (i := 9) rfl (.cons (i := 10) rfl (.cons (i := 11) rfl (.cons (i := 13) rfl (.cons (i := 14) rfl (.cons (i := 15) rfl (.cons (i := 17) rfl .nil)))))))))))))
                 refine wp_ret ?_
                 refine then_ret ?_; clear hk25 k25
                 refine then_ret ?_; clear hk17 k17
                 refine end1 hA rfl rfl ?_
                 exact ⟨rfl, Sat.none_ hS⟩
              · clear hA a; intro h125 a hA
                obtain rfl : h = 0 := by omega
                rw [nestO_ok hF (nestIn_ok hG (by rw [hcl]; exact hM))] at hN
                simp only [Prod.mk.injEq] at hN
                obtain ⟨rfl, hgi2, hx, rfl, hee⟩ := hN
                try (first | contradiction | (exfalso; omega) | (exfalso; simp at h125; done))
                all_goals
                 skip
                 refine wpList_nil ?_
                 refine hk26 _ _ ?_
                 clear hk26 k26
                 replace hA := hA.keep (.cons (i := 1) rfl (.cons (i := 3) rfl (.cons (i := 5) rfl (.cons (i := 6) rfl (.cons (i := 7) rfl (.cons (i := 9) rfl (.cons (i := 10) rfl (.cons (i := 11) rfl (.cons (i := 13) rfl (.cons (i := 14) rfl (.cons (i := 15) rfl (.cons (i := 17) rfl (.cons (i := 18) rfl (.cons (i := 125) rfl .nil))))))))))))))
                 refine wp_cond_false (hA.ev rfl) ?_
                 refine wp_skip ?_
                 refine hk25 _ _ ?_
                 clear hk25 k25
                 replace hA := hA.keep (.cons (i := 1) rfl (.cons (i := 3) rfl (.cons (i := 5) rfl (.cons (i := 6) rfl (.cons (i := 7) rfl (.cons (i := 9) rfl (.cons (i := 10) rfl (.cons (i := 11) rfl (.cons (i := 13) rfl (.cons (i := 14) rfl (.cons (i := 15) rfl (.cons (i := 17) rfl .nil))))))))))))
                 refine wp_seq_k fun k28 hk28 => ?_
                 refine wp_region_lit ?_
                 refine go1 hA rfl rfl rfl (r_move (hA.ev rfl)) ?_; clear hA a; intro a hA
                 refine go1 hA rfl rfl rfl (r_assign (hA.ev rfl)) ?_; clear hA a; intro a hA
                 refine wpList_nil ?_
                 refine hk28 _ _ ?_
                 clear hk28 k28
                 replace hA := hA.keep (.cons (i := 1) rfl (.cons (i := 3) rfl (.cons (i := 5) rfl (.cons (i := 6) rfl (.cons (i := 7) rfl (.cons (i := 9) rfl (.cons (i := 10) rfl (.cons (i := 11) rfl (.cons (i := 13) rfl (.cons (i := 14) rfl (.cons (i := 15) rfl .nil)))))))))))
                 refine wp_seq_k fun k29 hk29 => ?_
                 refine wp_seq_k fun k30 hk30 => ?_
                 refine wp_region_lit ?_
                 refine go1 hA rfl rfl rfl (r_move (hA.ev rfl)) ?_; clear hA a; intro a hA
                 refine go1 hA rfl rfl rfl (r_field (hA.ev rfl) T.fo76_1) ?_; clear hA a; intro a hA
                 refine go1 hA rfl rfl rfl (r_load (hA.ev rfl) T.fl22 (by first | exact hS.cell rfl | exact (hS.p 1).cell rfl | exact (hS.p 2).cell rfl | exact (hS.p 3).cell rfl | exact (hS.p 4).cell rfl | exact (hS.p 5).cell rfl | exact (hS.p 6).cell rfl | exact (hS.p 7).cell rfl | exact (hS.p 8).cell rfl | exact (hS.p 9).cell rfl | exact (hS.p 10).cell rfl | exact (hS.p 11).cell rfl | exact (hS.p 12).cell rfl | exact (hS.p 13).cell rfl)) ?_; clear hA a; intro a hA
                 refine go1 hA rfl rfl rfl (r_lens (hA.ev rfl) T.un22) ?_; clear hA a; intro a hA
                 refine go1s hA rfl rfl rfl (r_lss (hA.ev rfl) (hA.ev rfl)) ?_ ?_
                 · clear hA a; intro h143 a hA
                   try (first | contradiction | (exfalso; omega) | (exfalso; simp at h143; done))
                   all_goals
                    skip
                    refine wpList_nil ?_
                    refine hk30 _ _ ?_
                    clear hk30 k30
                    replace hA := hA.keep (.cons (i := 1) rfl (.cons (i := 3) rfl (.cons (i := 5) rfl (.cons (i := 6) rfl (.cons (i := 7) rfl (.cons (i := 9) rfl (.cons (i := 10) rfl (.cons (i := 11) rfl (.cons (i := 14) rfl (.cons (i := 15) rfl (.cons (i := 143) rfl .nil)))))))))))
                    refine wp_cond_true (hA.ev rfl) ?_
                    refine wp_region_lit ?_
                    refine go1 hA rfl rfl rfl (r_assign (hA.ev rfl)) ?_; clear hA a; intro a hA
                    refine wpList_nil ?_
                    refine hk29 _ _ ?_
                    clear hk29 k29
                    replace hA := hA.keep (.cons (i := 1) rfl (.cons (i := 3) rfl (.cons (i := 5) rfl (.cons (i := 6) rfl (.cons (i := 7) rfl (.cons (i := 9) rfl (.cons (i := 10) rfl (.cons (i := 11) rfl (.cons (i := 14) rfl (.cons (i := 15) rfl .nil))))))))))
                    refine wp_seq_k fun k31 hk31 => ?_
                    refine wp_region_lit ?_
                    refine go1 hA rfl rfl rfl (r_move (hA.ev rfl)) ?_; clear hA a; intro a hA
                    refine go1 hA rfl rfl rfl (r_field (hA.ev rfl) T.fo76_4) ?_; clear hA a; intro a hA
                    refine go1 hA rfl rfl rfl (r_load (hA.ev rfl) T.fl63 (by first | exact hS.cell rfl | exact (hS.p 1).cell rfl | exact (hS.p 2).cell rfl | exact (hS.p 3).cell rfl | exact (hS.p 4).cell rfl | exact (hS.p 5).cell rfl | exact (hS.p 6).cell rfl | exact (hS.p 7).cell rfl | exact (hS.p 8).cell rfl | exact (hS.p 9).cell rfl | exact (hS.p 10).cell rfl | exact (hS.p 11).cell rfl | exact (hS.p 12).cell rfl | exact (hS.p 13).cell rfl)) ?_; clear hA a; intro a hA
                    refine go1 hA rfl rfl rfl (r_lens (hA.ev rfl) T.un63) ?_; clear hA a; intro a hA
                    refine go1s hA rfl rfl rfl (r_lss (hA.ev rfl) (hA.ev rfl)) ?_ ?_
                    · clear hA a; intro h148 a hA
                      try (first | contradiction | (exfalso; omega) | (exfalso; simp at h148; done))
                      all_goals
                       skip
                       refine wpList_nil ?_
                       refine hk31 _ _ ?_
                       clear hk31 k31
                       replace hA := hA.keep (.cons (i := 1) rfl (.cons (i := 3) rfl (.cons (i := 5) rfl (.cons (i := 6) rfl (.cons (i := 7) rfl (.cons (i := 9) rfl (.cons (i := 10) rfl (.cons (i := 11) rfl (.cons (i := 14) rfl (.cons (i := 148) rfl .nil))))))))))
                       refine wp_cond_true (hA.ev rfl) ?_
                       refine wp_region_lit ?_
                       refine go1 hA rfl rfl rfl (r_assign (hA.ev rfl)) ?_; clear hA a; intro a hA
                       refine wpList_nil ?_
                       refine hk17 _ _ ?_
                       clear hk17 k17
                       replace hA := hA.keep (.cons (i := 1) rfl (.cons (i := 3) rfl (.cons (i := 5) rfl (.cons (i := 6) rfl (.cons (i := 7) rfl (.cons (i := 9) rfl (.cons (i := 10) rfl (.cons (i := 11) rfl (.cons (i := 14) rfl .nil)))))))))
                       refine wp_seq_k fun k32 hk32 => ?_
                       refine wp_seq_k fun k33 hk33 => ?_
                       refine wp_region_lit ?_
                       refine go1 hA rfl rfl rfl (r_move (hA.ev rfl)) ?_; clear hA a; intro a hA
                       refine go1 hA rfl rfl rfl (r_field (hA.ev rfl) T.fo76_0) ?_; clear hA a; intro a hA
                       refine go1 hA rfl rfl rfl (r_load (hA.ev rfl) T.fl22 (by first | exact hS.cell rfl | exact (hS.p 1).cell rfl | exact (hS.p 2).cell rfl | exact (hS.p 3).cell rfl | exact (hS.p 4).cell rfl | exact (hS.p 5).cell rfl | exact (hS.p 6).cell rfl | exact (hS.p 7).cell rfl | exact (hS.p 8).cell rfl | exact (hS.p 9).cell rfl | exact (hS.p 10).cell rfl | exact (hS.p 11).cell rfl | exact (hS.p 12).cell rfl | exact (hS.p 13).cell rfl)) ?_; clear hA a; intro a hA
                       refine go1 hA rfl rfl rfl (r_lens (hA.ev rfl) T.un22) ?_; clear hA a; intro a hA
                       refine go1s hA rfl rfl rfl (r_lss (hA.ev rfl) (hA.ev rfl)) ?_ ?_
                       · clear hA a; intro h153 a hA
                         try (first | contradiction | (exfalso; omega) | (exfalso; simp at h153; done))
                         all_goals
                          skip
                          refine wpList_nil ?_
                          refine hk33 _ _ ?_
                          clear hk33 k33
                          replace hA := hA.keep (.cons (i := 3) rfl (.cons (i := 5) rfl (.cons (i := 6) rfl (.cons (i := 7) rfl (.cons (i := 9) rfl (.cons (i := 11) rfl (.cons (i := 14) rfl (.cons (i := 153) rfl .nil))))))))
                          refine wp_cond_true (hA.ev rfl) ?_
                          refine wp_region_lit ?_
                          refine go1 hA rfl rfl rfl (r_assign (hA.ev rfl)) ?_; clear hA a; intro a hA
                          refine wpList_nil ?_
                          refine hk32 _ _ ?_
                          clear hk32 k32
                          replace hA := hA.keep (.cons (i := 3) rfl (.cons (i := 5) rfl (.cons (i := 6) rfl (.cons (i := 7) rfl (.cons (i := 9) rfl (.cons (i := 11) rfl (.cons (i := 14) rfl .nil)))))))
                          refine wp_seq_k fun k34 hk34 => ?_
                          refine wp_region_lit ?_
                          refine go1 hA rfl rfl rfl (r_load (hA.ev rfl) T.fl4 (by first | exact hS.cell rfl | exact (hS.p 1).cell rfl | exact (hS.p 2).cell rfl | exact (hS.p 3).cell rfl | exact (hS.p 4).cell rfl | exact (hS.p 5).cell rfl | exact (hS.p 6).cell rfl | exact (hS.p 7).cell rfl | exact (hS.p 8).cell rfl | exact (hS.p 9).cell rfl | exact (hS.p 10).cell rfl | exact (hS.p 11).cell rfl | exact (hS.p 12).cell rfl | exact (hS.p 13).cell rfl)) ?_; clear hA a; intro a hA
                          refine go1 hA rfl rfl rfl (r_move (hA.ev rfl)) ?_; clear hA a; intro a hA
                          try (first | rw [if_pos (by omega)] at hx | rw [if_neg (by omega), if_pos (by omega)] at hx | rw [if_neg (by omega), if_neg (by omega)] at hx)
                          refine go1y hA (wanted_yes hA rfl rfl rfl) rfl rfl (r_load (hA.ev rfl) T.fl23 (by first | exact hS.cell rfl | exact (hS.p 1).cell rfl | exact (hS.p 2).cell rfl | exact (hS.p 3).cell rfl | exact (hS.p 4).cell rfl | exact (hS.p 5).cell rfl | exact (hS.p 6).cell rfl | exact (hS.p 7).cell rfl | exact (hS.p 8).cell rfl | exact (hS.p 9).cell rfl | exact (hS.p 10).cell rfl | exact (hS.p 11).cell rfl | exact (hS.p 12).cell rfl | exact (hS.p 13).cell rfl)) ?_; clear hA a; intro a hA
                          refine go1y hA (wanted_yes hA rfl rfl rfl) rfl rfl (r_move (hA.ev rfl)) ?_; clear hA a; intro a hA
                          refine go1y hA (wanted_yes hA rfl rfl rfl) rfl rfl (as_t (r_eql (hA.ev rfl) (hA.ev rfl)) (by omega)) ?_; clear hA a; intro a hA
                          refine go1 hA rfl rfl rfl (r_pick_t (hA.ev rfl) (hA.ev rfl)) ?_; clear hA a; intro a hA
                          refine go1 hA rfl rfl rfl (r_move (hA.ev rfl)) ?_; clear hA a; intro a hA
                          first | rw [if_pos (by omega)] at hee | rw [if_neg (by omega)] at hee
                          refine go1y hA (wanted_yes hA rfl rfl rfl) rfl rfl (r_move (hA.ev rfl)) ?_; clear hA a; intro a hA
                          refine go1y hA (wanted_yes hA rfl rfl rfl) rfl rfl (r_move (hA.ev rfl)) ?_; clear hA a; intro a hA
                          refine go1y hA (wanted_yes hA rfl rfl rfl) rfl rfl (as_t (r_eql (hA.ev rfl) (hA.ev rfl)) (by omega)) ?_; clear hA a; intro a hA
                          refine go1 hA rfl rfl rfl (r_pick_t (hA.ev rfl) (hA.ev rfl)) ?_; clear hA a; intro a hA
                          refine go1 hA rfl rfl rfl (r_move (hA.ev rfl)) ?_; clear hA a; intro a hA
                          refine go1y hA (wanted_yes hA rfl rfl rfl) rfl rfl (r_load (hA.ev rfl) T.fl64 (by first | exact hS.cell rfl | exact (hS.p 1).cell rfl | exact (hS.p 2).cell rfl | exact (hS.p 3).cell rfl | exact (hS.p 4).cell rfl | exact (hS.p 5).cell rfl | exact (hS.p 6).cell rfl | exact (hS.p 7).cell rfl | exact (hS.p 8).cell rfl | exact (hS.p 9).cell rfl | exact (hS.p 10).cell rfl | exact (hS.p 11).cell rfl | exact (hS.p 12).cell rfl | exact (hS.p 13).cell rfl)) ?_; clear hA a; intro a hA
                          refine go1y hA (wanted_yes hA rfl rfl rfl) rfl rfl (r_move (hA.ev rfl)) ?_; clear hA a; intro a hA
                          refine goFy hA (wanted_yes hA rfl rfl rfl) rfl T.en34 rfl (alike_calls _ _ _ _ _ _ (by first | exact got_cut (hS.p 4).rd | exact got_cut (hS.p 3).rd) (by first | exact hS.rd | exact (hS.p 1).rd) (by first | omega | (simp; omega))) ?_
                          clear hA a; rintro e w ⟨rfl, hT⟩; replace hS : Sat _ _ (_ :: _) := hS.rebase hT; clear hT
                          refine ⟨_, rfl, ?_⟩; intro a hA
                          refine go1 hA rfl rfl rfl (r_pick_t (hA.ev rfl) (hA.ev rfl)) ?_; clear hA a; intro a hA
                          refine go1 hA rfl rfl rfl (r_assign (hA.ev rfl)) ?_; clear hA a; intro a hA
                          refine wpList_nil ?_
                          refine hk34 _ _ ?_
                          clear hk34 k34
                          replace hA := hA.keep (.cons (i := 2) rfl .nil)
                          refine wp_ret ?_
                          refine end1 hA rfl rfl ?_
                          exact ⟨rfl, Sat.none_ hS⟩
                       · clear hA a; intro h153 a hA
                         try (first | contradiction | (exfalso; omega) | (exfalso; simp at h153; done))
                         all_goals
                          skip
                          refine wpList_nil ?_
                          refine hk33 _ _ ?_
                          clear hk33 k33
                          replace hA := hA.keep (.cons (i := 3) rfl (.cons (i := 5) rfl (.cons (i := 6) rfl (.cons (i := 7) rfl (.cons (i := 9) rfl (.cons (i := 11) rfl (.cons (i := 14) rfl (.cons (i := 153) rfl .nil))))))))
                          refine wp_cond_false (hA.ev rfl) ?_
                          refine wp_skip ?_
                          refine hk32 _ _ ?_
                          clear hk32 k32
                          replace hA := hA.keep (.cons (i := 3) rfl (.cons (i := 5) rfl (.cons (i := 6) rfl (.cons (i := 7) rfl (.cons (i := 9) rfl (.cons (i := 11) rfl (.cons (i := 14) rfl .nil)))))))
                          refine wp_seq_k fun k35 hk35 => ?_
                          refine wp_region_lit ?_
                          refine go1 hA rfl rfl rfl (r_load (hA.ev rfl) T.fl4 (by first | exact hS.cell rfl | exact (hS.p 1).cell rfl | exact (hS.p 2).cell rfl | exact (hS.p 3).cell rfl | exact (hS.p 4).cell rfl | exact (hS.p 5).cell rfl | exact (hS.p 6).cell rfl | exact (hS.p 7).cell rfl | exact (hS.p 8).cell rfl | exact (hS.p 9).cell rfl | exact (hS.p 10).cell rfl | exact (hS.p 11).cell rfl | exact (hS.p 12).cell rfl | exact (hS.p 13).cell rfl)) ?_; clear hA a; intro a hA
                          refine go1 hA rfl rfl rfl (r_move (hA.ev rfl)) ?_; clear hA a; intro a hA
                          try (first | rw [if_pos (by omega)] at hx | rw [if_neg (by omega), if_pos (by omega)] at hx | rw [if_neg (by omega), if_neg (by omega)] at hx)
                          refine go1y hA (wanted_yes hA rfl rfl rfl) rfl rfl (r_load (hA.ev rfl) T.fl23 (by first | exact hS.cell rfl | exact (hS.p 1).cell rfl | exact (hS.p 2).cell rfl | exact (hS.p 3).cell rfl | exact (hS.p 4).cell rfl | exact (hS.p 5).cell rfl | exact (hS.p 6).cell rfl | exact (hS.p 7).cell rfl | exact (hS.p 8).cell rfl | exact (hS.p 9).cell rfl | exact (hS.p 10).cell rfl | exact (hS.p 11).cell rfl | exact (hS.p 12).cell rfl | exact (hS.p 13).cell rfl)) ?_; clear hA a; intro a hA
                          refine go1y hA (wanted_yes hA rfl rfl rfl) rfl rfl (r_move (hA.ev rfl)) ?_; clear hA a; intro a hA
                          refine go1y hA (wanted_yes hA rfl rfl rfl) rfl rfl (as_t (r_eql (hA.ev rfl) (hA.ev rfl)) (by omega)) ?_; clear hA a; intro a hA
                          refine go1 hA rfl rfl rfl (r_pick_t (hA.ev rfl) (hA.ev rfl)) ?_; clear hA a; intro a hA
                          refine go1 hA rfl rfl rfl (r_move (hA.ev rfl)) ?_; clear hA a; intro a hA
                          first | rw [if_pos (by omega)] at hee | rw [if_neg (by omega)] at hee
                          refine go1y hA (wanted_yes hA rfl rfl rfl) rfl rfl (r_move (hA.ev rfl)) ?_; clear hA a; intro a hA
                          refine go1y hA (wanted_yes hA rfl rfl rfl) rfl rfl (r_move (hA.ev rfl)) ?_; clear hA a; intro a hA
                          refine go1y hA (wanted_yes hA rfl rfl rfl) rfl rfl (as_t (r_eql (hA.ev rfl) (hA.ev rfl)) (by omega)) ?_; clear hA a; intro a hA
                          refine go1 hA rfl rfl rfl (r_pick_t (hA.ev rfl) (hA.ev rfl)) ?_; clear hA a; intro a hA
                          refine go1 hA rfl rfl rfl (r_move (hA.ev rfl)) ?_; clear hA a; intro a hA
                          refine go1y hA (wanted_yes hA rfl rfl rfl) rfl rfl (r_load (hA.ev rfl) T.fl64 (by first | exact hS.cell rfl | exact (hS.p 1).cell rfl | exact (hS.p 2).cell rfl | exact (hS.p 3).cell rfl | exact (hS.p 4).cell rfl | exact (hS.p 5).cell rfl | exact (hS.p 6).cell rfl | exact (hS.p 7).cell rfl | exact (hS.p 8).cell rfl | exact (hS.p 9).cell rfl | exact (hS.p 10).cell rfl | exact (hS.p 11).cell rfl | exact (hS.p 12).cell rfl | exact (hS.p 13).cell rfl)) ?_; clear hA a; intro a hA
                          refine go1y hA (wanted_yes hA rfl rfl rfl) rfl rfl (r_move (hA.ev rfl)) ?_; clear hA a; intro a hA
                          refine goFy hA (wanted_yes hA rfl rfl rfl) rfl T.en34 rfl (alike_calls _ _ _ _ _ _ (by first | exact got_cut (hS.p 4).rd | exact got_cut (hS.p 3).rd) (by first | exact hS.rd | exact (hS.p 1).rd) (by first | omega | (simp; omega))) ?_
                          clear hA a; rintro e w ⟨rfl, hT⟩; replace hS : Sat _ _ (_ :: _) := hS.rebase hT; clear hT
                          refine ⟨_, rfl, ?_⟩; intro a hA
                          refine go1 hA rfl rfl rfl (r_pick_t (hA.ev rfl) (hA.ev rfl)) ?_; clear hA a; intro a hA
                          refine go1 hA rfl rfl rfl (r_assign (hA.ev rfl)) ?_; clear hA a; intro a hA
                          refine wpList_nil ?_
                          refine hk35 _ _ ?_
                          clear hk35 k35
                          replace hA := hA.keep (.cons (i := 2) rfl .nil)
                          refine wp_ret ?_
                          refine end1 hA rfl rfl ?_
                          exact ⟨rfl, Sat.none_ hS⟩
                    · clear hA a; intro h148 a hA
                      try (first | contradiction | (exfalso; omega) | (exfalso; simp at h148; done))
                      all_goals
                       skip
                       refine wpList_nil ?_
                       refine hk31 _ _ ?_
                       clear hk31 k31
                       replace hA := hA.keep (.cons (i := 1) rfl (.cons (i := 3) rfl (.cons (i := 5) rfl (.cons (i := 6) rfl (.cons (i := 7) rfl (.cons (i := 9) rfl (.cons (i := 10) rfl (.cons (i := 11) rfl (.cons (i := 14) rfl (.cons (i := 148) rfl .nil))))))))))
                       refine wp_cond_false (hA.ev rfl) ?_
                       refine wp_skip ?_
                       refine hk17 _ _ ?_
                       clear hk17 k17
                       replace hA := hA.keep (.cons (i := 1) rfl (.cons (i := 3) rfl (.cons (i := 5) rfl (.cons (i := 6) rfl (.cons (i := 7) rfl (.cons (i := 9) rfl (.cons (i := 10) rfl (.cons (i := 11) rfl (.cons (i := 14) rfl .nil)))))))))
                       refine wp_seq_k fun k36 hk36 => ?_
                       refine wp_seq_k fun k37 hk37 => ?_
                       refine wp_region_lit ?_
                       refine go1 hA rfl rfl rfl (r_move (hA.ev rfl)) ?_; clear hA a; intro a hA
                       refine go1 hA rfl rfl rfl (r_field (hA.ev rfl) T.fo76_0) ?_; clear hA a; intro a hA
                       refine go1 hA rfl rfl rfl (r_load (hA.ev rfl) T.fl22 (by first | exact hS.cell rfl | exact (hS.p 1).cell rfl | exact (hS.p 2).cell rfl | exact (hS.p 3).cell rfl | exact (hS.p 4).cell rfl | exact (hS.p 5).cell rfl | exact (hS.p 6).cell rfl | exact (hS.p 7).cell rfl | exact (hS.p 8).cell rfl | exact (hS.p 9).cell rfl | exact (hS.p 10).cell rfl | exact (hS.p 11).cell rfl | exact (hS.p 12).cell rfl | exact (hS.p 13).cell rfl)) ?_; clear hA a; intro a hA
                       refine go1 hA rfl rfl rfl (r_lens (hA.ev rfl) T.un22) ?_; clear hA a; intro a hA
                       refine go1s hA rfl rfl rfl (r_lss (hA.ev rfl) (hA.ev rfl)) ?_ ?_
                       · clear hA a; intro h153 a hA
                         try (first | contradiction | (exfalso; omega) | (exfalso; simp at h153; done))
                         all_goals
                          skip
                          refine wpList_nil ?_
                          refine hk37 _ _ ?_
                          clear hk37 k37
                          replace hA := hA.keep (.cons (i := 3) rfl (.cons (i := 5) rfl (.cons (i := 6) rfl (.cons (i := 7) rfl (.cons (i := 9) rfl (.cons (i := 11) rfl (.cons (i := 14) rfl (.cons (i := 153) rfl .nil))))))))
                          refine wp_cond_true (hA.ev rfl) ?_
                          refine wp_region_lit ?_
                          refine go1 hA rfl rfl rfl (r_assign (hA.ev rfl)) ?_; clear hA a; intro a hA
                          refine wpList_nil ?_
                          refine hk36 _ _ ?_
                          clear hk36 k36
                          replace hA := hA.keep (.cons (i := 3) rfl (.cons (i := 5) rfl (.cons (i := 6) rfl (.cons (i := 7) rfl (.cons (i := 9) rfl (.cons (i := 11) rfl (.cons (i := 14) rfl .nil)))))))
                          refine wp_seq_k fun k38 hk38 => ?_
                          refine wp_region_lit ?_
                          refine go1 hA rfl rfl rfl (r_load (hA.ev rfl) T.fl4 (by first | exact hS.cell rfl | exact (hS.p 1).cell rfl | exact (hS.p 2).cell rfl | exact (hS.p 3).cell rfl | exact (hS.p 4).cell rfl | exact (hS.p 5).cell rfl | exact (hS.p 6).cell rfl | exact (hS.p 7).cell rfl | exact (hS.p 8).cell rfl | exact (hS.p 9).cell rfl | exact (hS.p 10).cell rfl | exact (hS.p 11).cell rfl | exact (hS.p 12).cell rfl | exact (hS.p 13).cell rfl)) ?_; clear hA a; intro a hA
                          refine go1 hA rfl rfl rfl (r_move (hA.ev rfl)) ?_; clear hA a; intro a hA
                          try (first | rw [if_pos (by omega)] at hx | rw [if_neg (by omega), if_pos (by omega)] at hx | rw [if_neg (by omega), if_neg (by omega)] at hx)
                          refine go1y hA (wanted_yes hA rfl rfl rfl) rfl rfl (r_load (hA.ev rfl) T.fl23 (by first | exact hS.cell rfl | exact (hS.p 1).cell rfl | exact (hS.p 2).cell rfl | exact (hS.p 3).cell rfl | exact (hS.p 4).cell rfl | exact (hS.p 5).cell rfl | exact (hS.p 6).cell rfl | exact (hS.p 7).cell rfl | exact (hS.p 8).cell rfl | exact (hS.p 9).cell rfl | exact (hS.p 10).cell rfl | exact (hS.p 11).cell rfl | exact (hS.p 12).cell rfl | exact (hS.p 13).cell rfl)) ?_; clear hA a; intro a hA
                          refine go1y hA (wanted_yes hA rfl rfl rfl) rfl rfl (r_move (hA.ev rfl)) ?_; clear hA a; intro a hA
                          refine go1y hA (wanted_yes hA rfl rfl rfl) rfl rfl (as_t (r_eql (hA.ev rfl) (hA.ev rfl)) (by omega)) ?_; clear hA a; intro a hA
                          refine go1 hA rfl rfl rfl (r_pick_t (hA.ev rfl) (hA.ev rfl)) ?_; clear hA a; intro a hA
                          refine go1 hA rfl rfl rfl (r_move (hA.ev rfl)) ?_; clear hA a; intro a hA
                          first | rw [if_pos (by omega)] at hee | rw [if_neg (by omega)] at hee
                          refine go1y hA (wanted_yes hA rfl rfl rfl) rfl rfl (r_move (hA.ev rfl)) ?_; clear hA a; intro a hA
                          refine go1y hA (wanted_yes hA rfl rfl rfl) rfl rfl (r_move (hA.ev rfl)) ?_; clear hA a; intro a hA
                          refine go1y hA (wanted_yes hA rfl rfl rfl) rfl rfl (as_t (r_eql (hA.ev rfl) (hA.ev rfl)) (by omega)) ?_; clear hA a; intro a hA
                          refine go1 hA rfl rfl rfl (r_pick_t (hA.ev rfl) (hA.ev rfl)) ?_; clear hA a; intro a hA
                          refine go1 hA rfl rfl rfl (r_move (hA.ev rfl)) ?_; clear hA a; intro a hA
                          refine go1y hA (wanted_yes hA rfl rfl rfl) rfl rfl (r_load (hA.ev rfl) T.fl64 (by first | exact hS.cell rfl | exact (hS.p 1).cell rfl | exact (hS.p 2).cell rfl | exact (hS.p 3).cell rfl | exact (hS.p 4).cell rfl | exact (hS.p 5).cell rfl | exact (hS.p 6).cell rfl | exact (hS.p 7).cell rfl | exact (hS.p 8).cell rfl | exact (hS.p 9).cell rfl | exact (hS.p 10).cell rfl | exact (hS.p 11).cell rfl | exact (hS.p 12).cell rfl | exact (hS.p 13).cell rfl)) ?_; clear hA a; intro a hA
                          refine go1y hA (wanted_yes hA rfl rfl rfl) rfl rfl (r_move (hA.ev rfl)) ?_; clear hA a; intro a hA
                          refine goFy hA (wanted_yes hA rfl rfl rfl) rfl T.en34 rfl (alike_calls _ _ _ _ _ _ (by first | exact got_cut (hS.p 4).rd | exact got_cut (hS.p 3).rd) (by first | exact hS.rd | exact (hS.p 1).rd) (by first | omega | (simp; omega))) ?_
                          clear hA a; rintro e w ⟨rfl, hT⟩; replace hS : Sat _ _ (_ :: _) := hS.rebase hT; clear hT
                          refine ⟨_, rfl, ?_⟩; intro a hA
                          refine go1 hA rfl rfl rfl (r_pick_t (hA.ev rfl) (hA.ev rfl)) ?_; clear hA a; intro a hA
                          refine go1 hA rfl rfl rfl (r_assign (hA.ev rfl)) ?_; clear hA a; intro a hA
                          refine wpList_nil ?_
                          refine hk38 _ _ ?_
                          clear hk38 k38
                          replace hA := hA.keep (.cons (i := 2) rfl .nil)
                          refine wp_ret ?_
                          refine end1 hA rfl rfl ?_
                          exact ⟨rfl, Sat.none_ hS⟩
                       · clear hA a; intro h153 a hA
                         try (first | contradiction | (exfalso; omega) | (exfalso; simp at h153; done))
                         all_goals
                          skip
                          refine wpList_nil ?_
                          refine hk37 _ _ ?_
                          clear hk37 k37
                          replace hA := hA.keep (.cons (i := 3) rfl (.cons (i := 5) rfl (.cons (i := 6) rfl (.cons (i := 7) rfl (.cons (i := 9) rfl (.cons (i := 11) rfl (.cons (i := 14) rfl (.cons (i := 153) rfl .nil))))))))
                          refine wp_cond_false (hA.ev rfl) ?_
                          refine wp_skip ?_
                          refine hk36 _ _ ?_
                          clear hk36 k36
                          replace hA := hA.keep (.cons (i := 3) rfl (.cons (i := 5) rfl (.cons (i := 6) rfl (.cons (i := 7) rfl (.cons (i := 9) rfl (.cons (i := 11) rfl (.cons (i := 14) rfl .nil)))))))
                          refine wp_seq_k fun k39 hk39 => ?_
                          refine wp_region_lit ?_
                          refine go1 hA rfl rfl rfl (r_load (hA.ev rfl) T.fl4 (by first | exact hS.cell rfl | exact (hS.p 1).cell rfl | exact (hS.p 2).cell rfl | exact (hS.p 3).cell rfl | exact (hS.p 4).cell rfl | exact (hS.p 5).cell rfl | exact (hS.p 6).cell rfl | exact (hS.p 7).cell rfl | exact (hS.p 8).cell rfl | exact (hS.p 9).cell rfl | exact (hS.p 10).cell rfl | exact (hS.p 11).cell rfl | exact (hS.p 12).cell rfl | exact (hS.p 13).cell rfl)) ?_; clear hA a; intro a hA
                          refine go1 hA rfl rfl rfl (r_move (hA.ev rfl)) ?_; clear hA a; intro a hA
                          try (first | rw [if_pos (by omega)] at hx | rw [if_neg (by omega), if_pos (by omega)] at hx | rw [if_neg (by omega), if_neg (by omega)] at hx)
                          refine go1y hA (wanted_yes hA rfl rfl rfl) rfl rfl (r_load (hA.ev rfl) T.fl23 (by first | exact hS.cell rfl | exact (hS.p 1).cell rfl | exact (hS.p 2).cell rfl | exact (hS.p 3).cell rfl | exact (hS.p 4).cell rfl | exact (hS.p 5).cell rfl | exact (hS.p 6).cell rfl | exact (hS.p 7).cell rfl | exact (hS.p 8).cell rfl | exact (hS.p 9).cell rfl | exact (hS.p 10).cell rfl | exact (hS.p 11).cell rfl | exact (hS.p 12).cell rfl | exact (hS.p 13).cell rfl)) ?_; clear hA a; intro a hA
                          refine go1y hA (wanted_yes hA rfl rfl rfl) rfl rfl (r_move (hA.ev rfl)) ?_; clear hA a; intro a hA
                          refine go1y hA (wanted_yes hA rfl rfl rfl) rfl rfl (as_t (r_eql (hA.ev rfl) (hA.ev rfl)) (by omega)) ?_; clear hA a; intro a hA
                          refine go1 hA rfl rfl rfl (r_pick_t (hA.ev rfl) (hA.ev rfl)) ?_; clear hA a; intro a hA
                          refine go1 hA rfl rfl rfl (r_move (hA.ev rfl)) ?_; clear hA a; intro a hA
                          first | rw [if_pos (by omega)] at hee | rw [if_neg (by omega)] at hee
                          refine go1y hA (wanted_yes hA rfl rfl rfl) rfl rfl (r_move (hA.ev rfl)) ?_; clear hA a; intro a hA
                          refine go1y hA (wanted_yes hA rfl rfl rfl) rfl rfl (r_move (hA.ev rfl)) ?_; clear hA a; intro a hA
                          refine go1y hA (wanted_yes hA rfl rfl rfl) rfl rfl (as_t (r_eql (hA.ev rfl) (hA.ev rfl)) (by omega)) ?_; clear hA a; intro a hA
                          refine go1 hA rfl rfl rfl (r_pick_t (hA.ev rfl) (hA.ev rfl)) ?_; clear hA a; intro a hA
                          refine go1 hA rfl rfl rfl (r_move (hA.ev rfl)) ?_; clear hA a; intro a hA
                          refine go1y hA (wanted_yes hA rfl rfl rfl) rfl rfl (r_load (hA.ev rfl) T.fl64 (by first | exact hS.cell rfl | exact (hS.p 1).cell rfl | exact (hS.p 2).cell rfl | exact (hS.p 3).cell rfl | exact (hS.p 4).cell rfl | exact (hS.p 5).cell rfl | exact (hS.p 6).cell rfl | exact (hS.p 7).cell rfl | exact (hS.p 8).cell rfl | exact (hS.p 9).cell rfl | exact (hS.p 10).cell rfl | exact (hS.p 11).cell rfl | exact (hS.p 12).cell rfl | exact (hS.p 13).cell rfl)) ?_; clear hA a; intro a hA
                          refine go1y hA (wanted_yes hA rfl rfl rfl) rfl rfl (r_move (hA.ev rfl)) ?_; clear hA a; intro a hA
                          refine goFy hA (wanted_yes hA rfl rfl rfl) rfl T.en34 rfl (alike_calls _ _ _ _ _ _ (by first | exact got_cut (hS.p 4).rd | exact got_cut (hS.p 3).rd) (by first | exact hS.rd | exact (hS.p 1).rd) (by first | omega | (simp; omega))) ?_
                          clear hA a; rintro e w ⟨rfl, hT⟩; replace hS : Sat _ _ (_ :: _) := hS.rebase hT; clear hT
                          refine ⟨_, rfl, ?_⟩; intro a hA
                          refine go1 hA rfl rfl rfl (r_pick_t (hA.ev rfl) (hA.ev rfl)) ?_; clear hA a; intro a hA
                          refine go1 hA rfl rfl rfl (r_assign (hA.ev rfl)) ?_; clear hA a; intro a hA
                          refine wpList_nil ?_
                          refine hk39 _ _ ?_
                          clear hk39 k39
                          replace hA := hA.keep (.cons (i := 2) rfl .nil)
                          refine wp_ret ?_
                          refine end1 hA rfl rfl ?_
                          exact ⟨rfl, Sat.none_ hS⟩
                 · clear hA a; intro h143 a hA
                   try (first | contradiction | (exfalso; omega) | (exfalso; simp at h143; done))
                   all_goals
                    skip
                    refine wpList_nil ?_
                    refine hk30 _ _ ?_
                    clear hk30 k30
                    replace hA := hA.keep (.cons (i := 1) rfl (.cons (i := 3) rfl (.cons (i := 5) rfl (.cons (i := 6) rfl (.cons (i := 7) rfl (.cons (i := 9) rfl (.cons (i := 10) rfl (.cons (i := 11) rfl (.cons (i := 14) rfl (.cons (i := 15) rfl (.cons (i := 143) rfl .nil)))))))))))
                    refine wp_cond_false (hA.ev rfl) ?_
                    refine wp_skip ?_
                    refine hk29 _ _ ?_
                    clear hk29 k29
                    replace hA := hA.keep (.cons (i := 1) rfl (.cons (i := 3) rfl (.cons (i := 5) rfl (.cons (i := 6) rfl (.cons (i := 7) rfl (.cons (i := 9) rfl (.cons (i := 10) rfl (.cons (i := 11) rfl (.cons (i := 14) rfl (.cons (i := 15) rfl .nil))))))))))
                    refine wp_seq_k fun k40 hk40 => ?_
                    refine wp_region_lit ?_
                    refine go1 hA rfl rfl rfl (r_move (hA.ev rfl)) ?_; clear hA a; intro a hA
                    refine go1 hA rfl rfl rfl (r_field (hA.ev rfl) T.fo76_4) ?_; clear hA a; intro a hA
                    refine go1 hA rfl rfl rfl (r_load (hA.ev rfl) T.fl63 (by first | exact hS.cell rfl | exact (hS.p 1).cell rfl | exact (hS.p 2).cell rfl | exact (hS.p 3).cell rfl | exact (hS.p 4).cell rfl | exact (hS.p 5).cell rfl | exact (hS.p 6).cell rfl | exact (hS.p 7).cell rfl | exact (hS.p 8).cell rfl | exact (hS.p 9).cell rfl | exact (hS.p 10).cell rfl | exact (hS.p 11).cell rfl | exact (hS.p 12).cell rfl | exact (hS.p 13).cell rfl)) ?_; clear hA a; intro a hA
                    refine go1 hA rfl rfl rfl (r_lens (hA.ev rfl) T.un63) ?_; clear hA a; intro a hA
                    refine go1s hA rfl rfl rfl (r_lss (hA.ev rfl) (hA.ev rfl)) ?_ ?_
                    · clear hA a; intro h148 a hA
                      try (first | contradiction | (exfalso; omega) | (exfalso; simp at h148; done))
                      all_goals
                       skip
                       refine wpList_nil ?_
                       refine hk40 _ _ ?_
                       clear hk40 k40
                       replace hA := hA.keep (.cons (i := 1) rfl (.cons (i := 3) rfl (.cons (i := 5) rfl (.cons (i := 6) rfl (.cons (i := 7) rfl (.cons (i := 9) rfl (.cons (i := 10) rfl (.cons (i := 11) rfl (.cons (i := 14) rfl (.cons (i := 148) rfl .nil))))))))))
                       refine wp_cond_true (hA.ev rfl) ?_
                       refine wp_region_lit ?_
                       refine go1 hA rfl rfl rfl (r_assign (hA.ev rfl)) ?_; clear hA a; intro a hA
                       refine wpList_nil ?_
                       refine hk17 _ _ ?_
                       clear hk17 k17
                       replace hA := hA.keep (.cons (i := 1) rfl (.cons (i := 3) rfl (.cons (i := 5) rfl (.cons (i := 6) rfl (.cons (i := 7) rfl (.cons (i := 9) rfl (.cons (i := 10) rfl (.cons (i := 11) rfl (.cons (i := 14) rfl .nil)))))))))
                       refine wp_seq_k fun k41 hk41 => ?_
                       refine wp_seq_k fun k42 hk42 => ?_
                       refine wp_region_lit ?_
                       refine go1 hA rfl rfl rfl (r_move (hA.ev rfl)) ?_; clear hA a; intro a hA
                       refine go1 hA rfl rfl rfl (r_field (hA.ev rfl) T.fo76_0) ?_; clear hA a; intro a hA
                       refine go1 hA rfl rfl rfl (r_load (hA.ev rfl) T.fl22 (by first | exact hS.cell rfl | exact (hS.p 1).cell rfl | exact (hS.p 2).cell rfl | exact (hS.p 3).cell rfl | exact (hS.p 4).cell rfl | exact (hS.p 5).cell rfl | exact (hS.p 6).cell rfl | exact (hS.p 7).cell rfl | exact (hS.p 8).cell rfl | exact (hS.p 9).cell rfl | exact (hS.p 10).cell rfl | exact (hS.p 11).cell rfl | exact (hS.p 12).cell rfl | exact (hS.p 13).cell rfl)) ?_; clear hA a; intro a hA
                       refine go1 hA rfl rfl rfl (r_lens (hA.ev rfl) T.un22) ?_; clear hA a; intro a hA
                       refine go1s hA rfl rfl rfl (r_lss (hA.ev rfl) (hA.ev rfl)) ?_ ?_
                       · clear hA a; intro h153 a hA
                         try (first | contradiction | (exfalso; omega) | (exfalso; simp at h153; done))
                         all_goals
                          skip
                          refine wpList_nil ?_
                          refine hk42 _ _ ?_
                          clear hk42 k42
                          replace hA := hA.keep (.cons (i := 3) rfl (.cons (i := 5) rfl (.cons (i := 6) rfl (.cons (i := 7) rfl (.cons (i := 9) rfl (.cons (i := 11) rfl (.cons (i := 14) rfl (.cons (i := 153) rfl .nil))))))))
                          refine wp_cond_true (hA.ev rfl) ?_
                          refine wp_region_lit ?_
                          refine go1 hA rfl rfl rfl (r_assign (hA.ev rfl)) ?_; clear hA a; intro a hA
                          refine wpList_nil ?_
                          refine hk41 _ _ ?_
                          clear hk41 k41
                          replace hA := hA.keep (.cons (i := 3) rfl (.cons (i := 5) rfl (.cons (i := 6) rfl (.cons (i := 7) rfl (.cons (i := 9) rfl (.cons (i := 11) rfl (.cons (i := 14) rfl .nil)))))))
                          refine wp_seq_k fun k43 hk43 => ?_
                          refine wp_region_lit ?_
                          refine go1 hA rfl rfl rfl (r_load (hA.ev rfl) T.fl4 (by first | exact hS.cell rfl | exact (hS.p 1).cell rfl | exact (hS.p 2).cell rfl | exact (hS.p 3).cell rfl | exact (hS.p 4).cell rfl | exact (hS.p 5).cell rfl | exact (hS.p 6).cell rfl | exact (hS.p 7).cell rfl | exact (hS.p 8).cell rfl | exact (hS.p 9).cell rfl | exact (hS.p 10).cell rfl | exact (hS.p 11).cell rfl | exact (hS.p 12).cell rfl | exact (hS.p 13).cell rfl)) ?_; clear hA a; intro a hA
                          refine go1 hA rfl rfl rfl (r_move (hA.ev rfl)) ?_; clear hA a; intro a hA
                          try (first | rw [if_pos (by omega)] at hx | rw [if_neg (by omega), if_pos (by omega)] at hx | rw [if_neg (by omega), if_neg (by omega)] at hx)
                          refine go1y hA (wanted_yes hA rfl rfl rfl) rfl rfl (r_load (hA.ev rfl) T.fl23 (by first | exact hS.cell rfl | exact (hS.p 1).cell rfl | exact (hS.p 2).cell rfl | exact (hS.p 3).cell rfl | exact (hS.p 4).cell rfl | exact (hS.p 5).cell rfl | exact (hS.p 6).cell rfl | exact (hS.p 7).cell rfl | exact (hS.p 8).cell rfl | exact (hS.p 9).cell rfl | exact (hS.p 10).cell rfl | exact (hS.p 11).cell rfl | exact (hS.p 12).cell rfl | exact (hS.p 13).cell rfl)) ?_; clear hA a; intro a hA
                          refine go1y hA (wanted_yes hA rfl rfl rfl) rfl rfl (r_move (hA.ev rfl)) ?_; clear hA a; intro a hA
                          refine go1y hA (wanted_yes hA rfl rfl rfl) rfl rfl (as_t (r_eql (hA.ev rfl) (hA.ev rfl)) (by omega)) ?_; clear hA a; intro a hA
                          refine go1 hA rfl rfl rfl (r_pick_t (hA.ev rfl) (hA.ev rfl)) ?_; clear hA a; intro a hA
                          refine go1 hA rfl rfl rfl (r_move (hA.ev rfl)) ?_; clear hA a; intro a hA
                          first | rw [if_pos (by omega)] at hee | rw [if_neg (by omega)] at hee
                          refine go1y hA (wanted_yes hA rfl rfl rfl) rfl rfl (r_move (hA.ev rfl)) ?_; clear hA a; intro a hA
                          refine go1y hA (wanted_yes hA rfl rfl rfl) rfl rfl (r_move (hA.ev rfl)) ?_; clear hA a; intro a hA
                          refine go1y hA (wanted_yes hA rfl rfl rfl) rfl rfl (as_t (r_eql (hA.ev rfl) (hA.ev rfl)) (by omega)) ?_; clear hA a; intro a hA
                          refine go1 hA rfl rfl rfl (r_pick_t (hA.ev rfl) (hA.ev rfl)) ?_; clear hA a; intro a hA
                          refine go1 hA rfl rfl rfl (r_move (hA.ev rfl)) ?_; clear hA a; intro a hA
                          refine go1y hA (wanted_yes hA rfl rfl rfl) rfl rfl (r_load (hA.ev rfl) T.fl64 (by first | exact hS.cell rfl | exact (hS.p 1).cell rfl | exact (hS.p 2).cell rfl | exact (hS.p 3).cell rfl | exact (hS.p 4).cell rfl | exact (hS.p 5).cell rfl | exact (hS.p 6).cell rfl | exact (hS.p 7).cell rfl | exact (hS.p 8).cell rfl | exact (hS.p 9).cell rfl | exact (hS.p 10).cell rfl | exact (hS.p 11).cell rfl | exact (hS.p 12).cell rfl | exact (hS.p 13).cell rfl)) ?_; clear hA a; intro a hA
                          refine go1y hA (wanted_yes hA rfl rfl rfl) rfl rfl (r_move (hA.ev rfl)) ?_; clear hA a; intro a hA
                          refine goFy hA (wanted_yes hA rfl rfl rfl) rfl T.en34 rfl (alike_calls _ _ _ _ _ _ (by first | exact got_cut (hS.p 4).rd | exact got_cut (hS.p 3).rd) (by first | exact hS.rd | exact (hS.p 1).rd) (by first | omega | (simp; omega))) ?_
                          clear hA a; rintro e w ⟨rfl, hT⟩; replace hS : Sat _ _ (_ :: _) := hS.rebase hT; clear hT
                          refine ⟨_, rfl, ?_⟩; intro a hA
                          refine go1 hA rfl rfl rfl (r_pick_t (hA.ev rfl) (hA.ev rfl)) ?_; clear hA a; intro a hA
                          refine go1 hA rfl rfl rfl (r_assign (hA.ev rfl)) ?_; clear hA a; intro a hA
                          refine wpList_nil ?_
                          refine hk43 _ _ ?_
                          clear hk43 k43
                          replace hA := hA.keep (.cons (i := 2) rfl .nil)
                          refine wp_ret ?_
                          refine end1 hA rfl rfl ?_
                          exact ⟨rfl, Sat.none_ hS⟩
                       · clear hA a; intro h153 a hA
                         try (first | contradiction | (exfalso; omega) | (exfalso; simp at h153; done))
                         all_goals
                          skip
                          refine wpList_nil ?_
                          refine hk42 _ _ ?_
                          clear hk42 k42
                          replace hA := hA.keep (.cons (i := 3) rfl (.cons (i := 5) rfl (.cons (i := 6) rfl (.cons (i := 7) rfl (.cons (i := 9) rfl (.cons (i := 11) rfl (.cons (i := 14) rfl (.cons (i := 153) rfl .nil))))))))
                          refine wp_cond_false (hA.ev rfl) ?_
                          refine wp_skip ?_
                          refine hk41 _ _ ?_
                          clear hk41 k41
                          replace hA := hA.keep (.cons (i := 3) rfl (.cons (i := 5) rfl (.cons (i := 6) rfl (.cons (i := 7) rfl (.cons (i := 9) rfl (.cons (i := 11) rfl (.cons (i := 14) rfl .nil)))))))
                          refine wp_seq_k fun k44 hk44 => ?_
                          refine wp_region_lit ?_
                          refine go1 hA rfl rfl rfl (r_load (hA.ev rfl) T.fl4 (by first | exact hS.cell rfl | exact (hS.p 1).cell rfl | exact (hS.p 2).cell rfl | exact (hS.p 3).cell rfl | exact (hS.p 4).cell rfl | exact (hS.p 5).cell rfl | exact (hS.p 6).cell rfl | exact (hS.p 7).cell rfl | exact (hS.p 8).cell rfl | exact (hS.p 9).cell rfl | exact (hS.p 10).cell rfl | exact (hS.p 11).cell rfl | exact (hS.p 12).cell rfl | exact (hS.p 13).cell rfl)) ?_; clear hA a; intro a hA
                          refine go1 hA rfl rfl rfl (r_move (hA.ev rfl)) ?_; clear hA a; intro a hA
                          try (first | rw [if_pos (by omega)] at hx | rw [if_neg (by omega), if_pos (by omega)] at hx | rw [if_neg (by omega), if_neg (by omega)] at hx)
                          refine go1y hA (wanted_yes hA rfl rfl rfl) rfl rfl (r_load (hA.ev rfl) T.fl23 (by first | exact hS.cell rfl | exact (hS.p 1).cell rfl | exact (hS.p 2).cell rfl | exact (hS.p 3).cell rfl | exact (hS.p 4).cell rfl | exact (hS.p 5).cell rfl | exact (hS.p 6).cell rfl | exact (hS.p 7).cell rfl | exact (hS.p 8).cell rfl | exact (hS.p 9).cell rfl | exact (hS.p 10).cell rfl | exact (hS.p 11).cell rfl | exact (hS.p 12).cell rfl | exact (hS.p 13).cell rfl)) ?_; clear hA a; intro a hA
                          refine go1y hA (wanted_yes hA rfl rfl rfl) rfl rfl (r_move (hA.ev rfl)) ?_; clear hA a; intro a hA
                          refine go1y hA (wanted_yes hA rfl rfl rfl) rfl rfl (as_t (r_eql (hA.ev rfl) (hA.ev rfl)) (by omega)) ?_; clear hA a; intro a hA
                          refine go1 hA rfl rfl rfl (r_pick_t (hA.ev rfl) (hA.ev rfl)) ?_; clear hA a; intro a hA
                          refine go1 hA rfl rfl rfl (r_move (hA.ev rfl)) ?_; clear hA a; intro a hA
                          first | rw [if_pos (by omega)] at hee | rw [if_neg (by omega)] at hee
                          refine go1y hA (wanted_yes hA rfl rfl rfl) rfl rfl (r_move (hA.ev rfl)) ?_; clear hA a; intro a hA
                          refine go1y hA (wanted_yes hA rfl rfl rfl) rfl rfl (r_move (hA.ev rfl)) ?_; clear hA a; intro a hA
                          refine go1y hA (wanted_yes hA rfl rfl rfl) rfl rfl (as_t (r_eql (hA.ev rfl) (hA.ev rfl)) (by omega)) ?_; clear hA a; intro a hA
                          refine go1 hA rfl rfl rfl (r_pick_t (hA.ev rfl) (hA.ev rfl)) ?_; clear hA a; intro a hA
                          refine go1 hA rfl rfl rfl (r_move (hA.ev rfl)) ?_; clear hA a; intro a hA
                          refine go1y hA (wanted_yes hA rfl rfl rfl) rfl rfl (r_load (hA.ev rfl) T.fl64 (by first | exact hS.cell rfl | exact (hS.p 1).cell rfl | exact (hS.p 2).cell rfl | exact (hS.p 3).cell rfl | exact (hS.p 4).cell rfl | exact (hS.p 5).cell rfl | exact (hS.p 6).cell rfl | exact (hS.p 7).cell rfl | exact (hS.p 8).cell rfl | exact (hS.p 9).cell rfl | exact (hS.p 10).cell rfl | exact (hS.p 11).cell rfl | exact (hS.p 12).cell rfl | exact (hS.p 13).cell rfl)) ?_; clear hA a; intro a hA
                          refine go1y hA (wanted_yes hA rfl rfl rfl) rfl rfl (r_move (hA.ev rfl)) ?_; clear hA a; intro a hA
                          refine goFy hA (wanted_yes hA rfl rfl rfl) rfl T.en34 rfl (alike_calls _ _ _ _ _ _ (by first | exact got_cut (hS.p 4).rd | exact got_cut (hS.p 3).rd) (by first | exact hS.rd | exact (hS.p 1).rd) (by first | omega | (simp; omega))) ?_
                          clear hA a; rintro e w ⟨rfl, hT⟩; replace hS : Sat _ _ (_ :: _) := hS.rebase hT; clear hT
                          refine ⟨_, rfl, ?_⟩; intro a hA
                          refine go1 hA rfl rfl rfl (r_pick_t (hA.ev rfl) (hA.ev rfl)) ?_; clear hA a; intro a hA
                          refine go1 hA rfl rfl rfl (r_assign (hA.ev rfl)) ?_; clear hA a; intro a hA
                          refine wpList_nil ?_
                          refine hk44 _ _ ?_
                          clear hk44 k44
                          replace hA := hA.keep (.cons (i := 2) rfl .nil)
                          refine wp_ret ?_
                          refine end1 hA rfl rfl ?_
                          exact ⟨rfl, Sat.none_ hS⟩
                    · clear hA a; intro h148 a hA
                      try (first | contradiction | (exfalso; omega) | (exfalso; simp at h148; done))
                      all_goals
                       skip
                       refine wpList_nil ?_
                       refine hk40 _ _ ?_
                       clear hk40 k40
                       replace hA := hA.keep (.cons (i := 1) rfl (.cons (i := 3) rfl (.cons (i := 5) rfl (.cons (i := 6) rfl (.cons (i := 7) rfl (.cons (i := 9) rfl (.cons (i := 10) rfl (.cons (i := 11) rfl (.cons (i := 14) rfl (.cons (i := 148) rfl .nil))))))))))
                       refine wp_cond_false (hA.ev rfl) ?_
                       refine wp_skip ?_
                       refine hk17 _ _ ?_
                       clear hk17 k17
                       replace hA := hA.keep (.cons (i := 1) rfl (.cons (i := 3) rfl (.cons (i := 5) rfl (.cons (i := 6) rfl (.cons (i := 7) rfl (.cons (i := 9) rfl (.cons (i := 10) rfl (.cons (i := 11) rfl (.cons (i := 14) rfl .nil)))))))))
                       refine wp_seq_k fun k45 hk45 => ?_
                       refine wp_seq_k fun k46 hk46 => ?_
                       refine wp_region_lit ?_
                       refine go1 hA rfl rfl rfl (r_move (hA.ev rfl)) ?_; clear hA a; intro a hA
                       refine go1 hA rfl rfl rfl (r_field (hA.ev rfl) T.fo76_0) ?_; clear hA a; intro a hA
                       refine go1 hA rfl rfl rfl (r_load (hA.ev rfl) T.fl22 (by first | exact hS.cell rfl | exact (hS.p 1).cell rfl | exact (hS.p 2).cell rfl | exact (hS.p 3).cell rfl | exact (hS.p 4).cell rfl | exact (hS.p 5).cell rfl | exact (hS.p 6).cell rfl | exact (hS.p 7).cell rfl | exact (hS.p 8).cell rfl | exact (hS.p 9).cell rfl | exact (hS.p 10).cell rfl | exact (hS.p 11).cell rfl | exact (hS.p 12).cell rfl | exact (hS.p 13).cell rfl)) ?_; clear hA a; intro a hA
                       refine go1 hA rfl rfl rfl (r_lens (hA.ev rfl) T.un22) ?_; clear hA a; intro a hA
                       refine go1s hA rfl rfl rfl (r_lss (hA.ev rfl) (hA.ev rfl)) ?_ ?_
                       · clear hA a; intro h153 a hA
                         try (first | contradiction | (exfalso; omega) | (exfalso; simp at h153; done))
                         all_goals
                          skip
                          refine wpList_nil ?_
                          refine hk46 _ _ ?_
                          clear hk46 k46
                          replace hA := hA.keep (.cons (i := 3) rfl (.cons (i := 5) rfl (.cons (i := 6) rfl (.cons (i := 7) rfl (.cons (i := 9) rfl (.cons (i := 11) rfl (.cons (i := 14) rfl (.cons (i := 153) rfl .nil))))))))
                          refine wp_cond_true (hA.ev rfl) ?_
                          refine wp_region_lit ?_
                          refine go1 hA rfl rfl rfl (r_assign (hA.ev rfl)) ?_; clear hA a; intro a hA
                          refine wpList_nil ?_
                          refine hk45 _ _ ?_
                          clear hk45 k45
                          replace hA := hA.keep (.cons (i := 3) rfl (.cons (i := 5) rfl (.cons (i := 6) rfl (.cons (i := 7) rfl (.cons (i := 9) rfl (.cons (i := 11) rfl (.cons (i := 14) rfl .nil)))))))
                          refine wp_seq_k fun k47 hk47 => ?_
                          refine wp_region_lit ?_
                          refine go1 hA rfl rfl rfl (r_load (hA.ev rfl) T.fl4 (by first | exact hS.cell rfl | exact (hS.p 1).cell rfl | exact (hS.p 2).cell rfl | exact (hS.p 3).cell rfl | exact (hS.p 4).cell rfl | exact (hS.p 5).cell rfl | exact (hS.p 6).cell rfl | exact (hS.p 7).cell rfl | exact (hS.p 8).cell rfl | exact (hS.p 9).cell rfl | exact (hS.p 10).cell rfl | exact (hS.p 11).cell rfl | exact (hS.p 12).cell rfl | exact (hS.p 13).cell rfl)) ?_; clear hA a; intro a hA
                          refine go1 hA rfl rfl rfl (r_move (hA.ev rfl)) ?_; clear hA a; intro a hA
                          try (first | rw [if_pos (by omega)] at hx | rw [if_neg (by omega), if_pos (by omega)] at hx | rw [if_neg (by omega), if_neg (by omega)] at hx)
                          refine go1y hA (wanted_yes hA rfl rfl rfl) rfl rfl (r_load (hA.ev rfl) T.fl23 (by first | exact hS.cell rfl | exact (hS.p 1).cell rfl | exact (hS.p 2).cell rfl | exact (hS.p 3).cell rfl | exact (hS.p 4).cell rfl | exact (hS.p 5).cell rfl | exact (hS.p 6).cell rfl | exact (hS.p 7).cell rfl | exact (hS.p 8).cell rfl | exact (hS.p 9).cell rfl | exact (hS.p 10).cell rfl | exact (hS.p 11).cell rfl | exact (hS.p 12).cell rfl | exact (hS.p 13).cell rfl)) ?_; clear hA a; intro a hA
                          refine go1y hA (wanted_yes hA rfl rfl rfl) rfl rfl (r_move (hA.ev rfl)) ?_; clear hA a; intro a hA
                          refine go1y hA (wanted_yes hA rfl rfl rfl) rfl rfl (as_t (r_eql (hA.ev rfl) (hA.ev rfl)) (by omega)) ?_; clear hA a; intro a hA
                          refine go1 hA rfl rfl rfl (r_pick_t (hA.ev rfl) (hA.ev rfl)) ?_; clear hA a; intro a hA
                          refine go1 hA rfl rfl rfl (r_move (hA.ev rfl)) ?_; clear hA a; intro a hA
                          first | rw [if_pos (by omega)] at hee | rw [if_neg (by omega)] at hee
                          refine go1y hA (wanted_yes hA rfl rfl rfl) rfl rfl (r_move (hA.ev rfl)) ?_; clear hA a; intro a hA
                          refine go1y hA (wanted_yes hA rfl rfl rfl) rfl rfl (r_move (hA.ev rfl)) ?_; clear hA a; intro a hA
                          refine go1y hA (wanted_yes hA rfl rfl rfl) rfl rfl (as_t (r_eql (hA.ev rfl) (hA.ev rfl)) (by omega)) ?_; clear hA a; intro a hA
                          refine go1 hA rfl rfl rfl (r_pick_t (hA.ev rfl) (hA.ev rfl)) ?_; clear hA a; intro a hA
                          refine go1 hA rfl rfl rfl (r_move (hA.ev rfl)) ?_; clear hA a; intro a hA
                          refine go1y hA (wanted_yes hA rfl rfl rfl) rfl rfl (r_load (hA.ev rfl) T.fl64 (by first | exact hS.cell rfl | exact (hS.p 1).cell rfl | exact (hS.p 2).cell rfl | exact (hS.p 3).cell rfl | exact (hS.p 4).cell rfl | exact (hS.p 5).cell rfl | exact (hS.p 6).cell rfl | exact (hS.p 7).cell rfl | exact (hS.p 8).cell rfl | exact (hS.p 9).cell rfl | exact (hS.p 10).cell rfl | exact (hS.p 11).cell rfl | exact (hS.p 12).cell rfl | exact (hS.p 13).cell rfl)) ?_; clear hA a; intro a hA
                          refine go1y hA (wanted_yes hA rfl rfl rfl) rfl rfl (r_move (hA.ev rfl)) ?_; clear hA a; intro a hA
                          refine goFy hA (wanted_yes hA rfl rfl rfl) rfl T.en34 rfl (alike_calls _ _ _ _ _ _ (by first | exact got_cut (hS.p 4).rd | exact got_cut (hS.p 3).rd) (by first | exact hS.rd | exact (hS.p 1).rd) (by first | omega | (simp; omega))) ?_
                          clear hA a; rintro e w ⟨rfl, hT⟩; replace hS : Sat _ _ (_ :: _) := hS.rebase hT; clear hT
                          refine ⟨_, rfl, ?_⟩; intro a hA
                          refine go1 hA rfl rfl rfl (r_pick_t (hA.ev rfl) (hA.ev rfl)) ?_; clear hA a; intro a hA
                          refine go1 hA rfl rfl rfl (r_assign (hA.ev rfl)) ?_; clear hA a; intro a hA
                          refine wpList_nil ?_
                          refine hk47 _ _ ?_
                          clear hk47 k47
                          replace hA := hA.keep (.cons (i := 2) rfl .nil)
                          refine wp_ret ?_
                          refine end1 hA rfl rfl ?_
                          exact ⟨rfl, Sat.none_ hS⟩
                       · clear hA a; intro h153 a hA
                         try (first | contradiction | (exfalso; omega) | (exfalso; simp at h153; done))
                         all_goals
                          skip
                          refine wpList_nil ?_
                          refine hk46 _ _ ?_
                          clear hk46 k46
                          replace hA := hA.keep (.cons (i := 3) rfl (.cons (i := 5) rfl (.cons (i := 6) rfl (.cons (i := 7) rfl (.cons (i := 9) rfl (.cons (i := 11) rfl (.cons (i := 14) rfl (.cons (i := 153) rfl .nil))))))))
                          refine wp_cond_false (hA.ev rfl) ?_
                          refine wp_skip ?_
                          refine hk45 _ _ ?_
                          clear hk45 k45
                          replace hA := hA.keep (.cons (i := 3) rfl (.cons (i := 5) rfl (.cons (i := 6) rfl (.cons (i := 7) rfl (.cons (i := 9) rfl (.cons (i := 11) rfl (.cons (i := 14) rfl .nil)))))))
                          refine wp_seq_k fun k48 hk48 => ?_
                          refine wp_region_lit ?_
                          refine go1 hA rfl rfl rfl (r_load (hA.ev rfl) T.fl4 (by first | exact hS.cell rfl | exact (hS.p 1).cell rfl | exact (hS.p 2).cell rfl | exact (hS.p 3).cell rfl | exact (hS.p 4).cell rfl | exact (hS.p 5).cell rfl | exact (hS.p 6).cell rfl | exact (hS.p 7).cell rfl | exact (hS.p 8).cell rfl | exact (hS.p 9).cell rfl | exact (hS.p 10).cell rfl | exact (hS.p 11).cell rfl | exact (hS.p 12).cell rfl | exact (hS.p 13).cell rfl)) ?_; clear hA a; intro a hA
                          refine go1 hA rfl rfl rfl (r_move (hA.ev rfl)) ?_; clear hA a; intro a hA
                          try (first | rw [if_pos (by omega)] at hx | rw [if_neg (by omega), if_pos (by omega)] at hx | rw [if_neg (by omega), if_neg (by omega)] at hx)
                          refine go1y hA (wanted_yes hA rfl rfl rfl) rfl rfl (r_load (hA.ev rfl) T.fl23 (by first | exact hS.cell rfl | exact (hS.p 1).cell rfl | exact (hS.p 2).cell rfl | exact (hS.p 3).cell rfl | exact (hS.p 4).cell rfl | exact (hS.p 5).cell rfl | exact (hS.p 6).cell rfl | exact (hS.p 7).cell rfl | exact (hS.p 8).cell rfl | exact (hS.p 9).cell rfl | exact (hS.p 10).cell rfl | exact (hS.p 11).cell rfl | exact (hS.p 12).cell rfl | exact (hS.p 13).cell rfl)) ?_; clear hA a; intro a hA
                          refine go1y hA (wanted_yes hA rfl rfl rfl) rfl rfl (r_move (hA.ev rfl)) ?_; clear hA a; intro a hA
                          refine go1y hA (wanted_yes hA rfl rfl rfl) rfl rfl (as_t (r_eql (hA.ev rfl) (hA.ev rfl)) (by omega)) ?_; clear hA a; intro a hA
                          refine go1 hA rfl rfl rfl (r_pick_t (hA.ev rfl) (hA.ev rfl)) ?_; clear hA a; intro a hA
                          refine go1 hA rfl rfl rfl (r_move (hA.ev rfl)) ?_; clear hA a; intro a hA
                          first | rw [if_pos (by omega)] at hee | rw [if_neg (by omega)] at hee
                          refine go1y hA (wanted_yes hA rfl rfl rfl) rfl rfl (r_move (hA.ev rfl)) ?_; clear hA a; intro a hA
                          refine go1y hA (wanted_yes hA rfl rfl rfl) rfl rfl (r_move (hA.ev rfl)) ?_; clear hA a; intro a hA
                          refine go1y hA (wanted_yes hA rfl rfl rfl) rfl rfl (as_t (r_eql (hA.ev rfl) (hA.ev rfl)) (by omega)) ?_; clear hA a; intro a hA
                          refine go1 hA rfl rfl rfl (r_pick_t (hA.ev rfl) (hA.ev rfl)) ?_; clear hA a; intro a hA
                          refine go1 hA rfl rfl rfl (r_move (hA.ev rfl)) ?_; clear hA a; intro a hA
                          refine go1y hA (wanted_yes hA rfl rfl rfl) rfl rfl (r_load (hA.ev rfl) T.fl64 (by first | exact hS.cell rfl | exact (hS.p 1).cell rfl | exact (hS.p 2).cell rfl | exact (hS.p 3).cell rfl | exact (hS.p 4).cell rfl | exact (hS.p 5).cell rfl | exact (hS.p 6).cell rfl | exact (hS.p 7).cell rfl | exact (hS.p 8).cell rfl | exact (hS.p 9).cell rfl | exact (hS.p 10).cell rfl | exact (hS.p 11).cell rfl | exact (hS.p 12).cell rfl | exact (hS.p 13).cell rfl)) ?_; clear hA a; intro a hA
                          refine go1y hA (wanted_yes hA rfl rfl rfl) rfl rfl (r_move (hA.ev rfl)) ?_; clear hA a; intro a hA
                          refine goFy hA (wanted_yes hA rfl rfl rfl) rfl T.en34 rfl (alike_calls _ _ _ _ _ _ (by first | exact got_cut (hS.p 4).rd | exact got_cut (hS.p 3).rd) (by first | exact hS.rd | exact (hS.p 1).rd) (by first | omega | (simp; omega))) ?_
                          clear hA a; rintro e w ⟨rfl, hT⟩; replace hS : Sat _ _ (_ :: _) := hS.rebase hT; clear hT
                          refine ⟨_, rfl, ?_⟩; intro a hA
                          refine go1 hA rfl rfl rfl (r_pick_t (hA.ev rfl) (hA.ev rfl)) ?_; clear hA a; intro a hA
                          refine go1 hA rfl rfl rfl (r_assign (hA.ev rfl)) ?_; clear hA a; intro a hA
                          refine wpList_nil ?_
                          refine hk48 _ _ ?_
                          clear hk48 k48
                          replace hA := hA.keep (.cons (i := 2) rfl .nil)
                          refine wp_ret ?_
                          refine end1 hA rfl rfl ?_
                          exact ⟨rfl, Sat.none_ hS⟩
        · clear hA a; intro h97 a hA
          have hcl : calmN last = i := by have := calm_le last; omega
          try (first | contradiction | (exfalso; omega) | (exfalso; simp at h97; done))
          all_goals
           skip
           refine go1 hA rfl rfl rfl (r_move (hA.ev rfl)) ?_; clear hA a; intro a hA
           refine goS hA (wanted_no hA rfl rfl rfl rfl) rfl rfl ?_; clear hA a; intro a hA
           refine goS hA (wanted_no hA rfl rfl rfl rfl) rfl rfl ?_; clear hA a; intro a hA
           refine goS hA (wanted_no hA rfl rfl rfl rfl) rfl rfl ?_; clear hA a; intro a hA
           refine goS hA (wanted_no hA rfl rfl rfl rfl) rfl rfl ?_; clear hA a; intro a hA
           refine goS hA (wanted_no hA rfl rfl rfl rfl) rfl rfl ?_; clear hA a; intro a hA
           refine goS hA (wanted_no hA rfl rfl rfl rfl) rfl rfl ?_; clear hA a; intro a hA
           refine goS hA (wanted_no hA rfl rfl rfl rfl) rfl rfl ?_; clear hA a; intro a hA
           refine go1 hA rfl rfl rfl (r_pick_f (hA.ev rfl) (hA.ev rfl)) ?_; clear hA a; intro a hA
           refine wpList_nil ?_
           refine hk22 _ _ ?_
           clear hk22 k22
           refine wp_cond_false (hA.ev rfl) ?_
           refine wp_exit ?_
           refine then_exit ?_; clear hk21 k21
           refine then_exit ?_
           refine block_hit ?_
           refine hk20 _ _ ?_
           clear hk20 k20
           replace hA := hA.keep (.cons (i := 1) rfl (.cons (i := 3) rfl (.cons (i := 5) rfl (.cons (i := 6) rfl (.cons (i := 7) rfl (.cons (i := 9) rfl (.cons (i := 10) rfl (.cons (i := 11) rfl (.cons (i := 13) rfl (.cons (i := 14) rfl (.cons (i := 15) rfl .nil)))))))))))
           refine wp_seq_k fun k49 hk49 => ?_
           refine xEnterE [7] hS (by kernel_rfl) ?_
           replace hS := hS.drew
           refine K.p1 0 hA (pok_then (pok_then pok_body)) rfl rfl rfl rfl (by kernel_rfl) (by kernel_rfl) (by kernel_rfl) (fun w => (r_field (hA.ev rfl) T.fo76_0)) ?_; clear hA a; intro a hA
           refine K.x1 1 hA (pok_then (pok_then pok_body)) rfl rfl rfl rfl (by kernel_rfl) (by kernel_rfl) (by kernel_rfl) (by kernel_rfl) (by kernel_rfl) (by first | exact ⟨[], hS⟩ | exact ⟨[_], hS⟩ | exact ⟨[_, _], hS⟩ | exact ⟨[_, _, _], hS⟩ | exact ⟨[_, _, _, _], hS⟩ | exact ⟨[_, _, _, _, _], hS⟩ | exact ⟨[_, _, _, _, _, _], hS⟩) (fun w hT => have hS := hT.sat; (r_load (hA.ev rfl) T.fl22 (by first | exact hS.cell rfl | exact (hS.p 1).cell rfl | exact (hS.p 2).cell rfl | exact (hS.p 3).cell rfl | exact (hS.p 4).cell rfl | exact (hS.p 5).cell rfl | exact (hS.p 6).cell rfl | exact (hS.p 7).cell rfl | exact (hS.p 8).cell rfl | exact (hS.p 9).cell rfl | exact (hS.p 10).cell rfl | exact (hS.p 11).cell rfl | exact (hS.p 12).cell rfl | exact (hS.p 13).cell rfl))) ?_; clear hA a; intro a hA
           refine K.p1 2 hA (pok_then (pok_then pok_body)) rfl rfl rfl rfl (by kernel_rfl) (by kernel_rfl) (by kernel_rfl) (fun w => (r_move (hA.ev rfl))) ?_; clear hA a; intro a hA
           refine K.p1 3 hA (pok_then (pok_then pok_body)) rfl rfl rfl rfl (by kernel_rfl) (by kernel_rfl) (by kernel_rfl) (fun w => (r_field (hA.ev rfl) T.fo76_4)) ?_; clear hA a; intro a hA
           refine K.x1 4 hA (pok_then (pok_then pok_body)) rfl rfl rfl rfl (by kernel_rfl) (by kernel_rfl) (by kernel_rfl) (by kernel_rfl) (by kernel_rfl) (by first | exact ⟨[], hS⟩ | exact ⟨[_], hS⟩ | exact ⟨[_, _], hS⟩ | exact ⟨[_, _, _], hS⟩ | exact ⟨[_, _, _, _], hS⟩ | exact ⟨[_, _, _, _, _], hS⟩ | exact ⟨[_, _, _, _, _, _], hS⟩) (fun w hT => have hS := hT.sat; (r_load (hA.ev rfl) T.fl63 (by first | exact hS.cell rfl | exact (hS.p 1).cell rfl | exact (hS.p 2).cell rfl | exact (hS.p 3).cell rfl | exact (hS.p 4).cell rfl | exact (hS.p 5).cell rfl | exact (hS.p 6).cell rfl | exact (hS.p 7).cell rfl | exact (hS.p 8).cell rfl | exact (hS.p 9).cell rfl | exact (hS.p 10).cell rfl | exact (hS.p 11).cell rfl | exact (hS.p 12).cell rfl | exact (hS.p 13).cell rfl))) ?_; clear hA a; intro a hA
           refine K.p1 5 hA (pok_then (pok_then pok_body)) rfl rfl rfl rfl (by kernel_rfl) (by kernel_rfl) (by kernel_rfl) (fun w => (r_move (hA.ev rfl))) ?_; clear hA a; intro a hA
           refine K.p1 6 hA (pok_then (pok_then pok_body)) rfl rfl rfl rfl (by kernel_rfl) (by kernel_rfl) (by kernel_rfl) (fun w => (as_val (r_slice_h (hA.ev rfl) (hA.ev rfl) T.un63 T.sz69 (by omega) (by omega)) (ask_slice (l := last) (n := i) (by omega)))) ?_; clear hA a; intro a hA
           refine xOne 7 (by kernel_rfl) ?_
           refine eF hA rfl rfl T.en39 rfl (From_calls _ Ab cb bs at_ _ _ (last.take i) (hRb.sat hS) hp5 (by omega) (ask_cut (hQl.sat hS) i (by omega)) (fun x hx => hwl x (List.mem_of_mem_take hx)) (by simp; omega)) ?_
           clear hA a; rintro e w ⟨A9, c9, rfl, hp9, hT⟩; replace hS := hS.rebase1 hT; clear hT; obtain ⟨more, nx, h, hM⟩ : ∃ gs_ i_ er_, fromA bs at_ (last.take i) = (gs_, i_, er_) := ⟨_, _, _, rfl⟩; rw [hM] at hS hp9 ⊢; dsimp only at hS hp9 ⊢; have hle9 := from_len bs (last.take i) at_; rw [hM] at hle9; dsimp only at hle9
           refine ⟨_, rfl, ?_⟩; intro a hA
           refine ⟨.inl rfl, ?_⟩
           refine K.p1 8 hA (pok_then (pok_then pok_body)) rfl rfl rfl rfl (by kernel_rfl) (by kernel_rfl) (by kernel_rfl) (fun w => (r_move (hA.ev rfl))) ?_; clear hA a; intro a hA
           refine K.p1 9 hA (pok_then (pok_then pok_body)) rfl rfl rfl rfl (by kernel_rfl) (by kernel_rfl) (by kernel_rfl) (fun w => (r_ext (hA.ev rfl) rfl)) ?_; clear hA a; intro a hA
           refine K.p1 10 hA (pok_then (pok_then pok_body)) rfl rfl rfl rfl (by kernel_rfl) (by kernel_rfl) (by kernel_rfl) (fun w => (r_ext (hA.ev rfl) rfl)) ?_; clear hA a; intro a hA
           refine K.p1 11 hA (pok_then (pok_then pok_body)) rfl rfl rfl rfl (by kernel_rfl) (by kernel_rfl) (by kernel_rfl) (fun w => (r_ext (hA.ev rfl) rfl)) ?_; clear hA a; intro a hA
           refine K.p1 12 hA (pok_then (pok_then pok_body)) rfl rfl rfl rfl (by kernel_rfl) (by kernel_rfl) (by kernel_rfl) (fun w => (r_assign (hA.ev rfl))) ?_; clear hA a; intro a hA
           refine K.p1 13 hA (pok_then (pok_then pok_body)) rfl rfl rfl rfl (by kernel_rfl) (by kernel_rfl) (by kernel_rfl) (fun w => (r_assign (hA.ev rfl))) ?_; clear hA a; intro a hA
           refine K.p1 14 hA (pok_then (pok_then pok_body)) rfl rfl rfl rfl (by kernel_rfl) (by kernel_rfl) (by kernel_rfl) (fun w => (r_assign (hA.ev rfl))) ?_; clear hA a; intro a hA
           refine wpAnyX_done (by kernel_rfl) ?_ _
           refine hk49 _ _ ?_
           clear hk49 k49
           replace hA := hA.keep (.cons (i := 1) rfl (.cons (i := 3) rfl (.cons (i := 5) rfl (.cons (i := 6) rfl (.cons (i := 7) rfl (.cons (i := 9) rfl (.cons (i := 10) rfl (.cons (i := 11) rfl (.cons (i := 13) rfl (.cons (i := 14) rfl (.cons (i := 15) rfl (.cons (i := 16) rfl (.cons (i := 17) rfl (.cons (i := 18) rfl .nil))))))))))))))
           refine wp_seq_k fun k50 hk50 => ?_
           refine wp_region_lit ?_
           refine go1 hA rfl rfl rfl (r_move (hA.ev rfl)) ?_; clear hA a; intro a hA
           refine go1 hA rfl rfl rfl (r_move (hA.ev rfl)) ?_; clear hA a; intro a hA
           have htk := List.length_take_le i last
           refine goA' hA rfl rfl rfl T.un64 T.el66 rfl (hS.p 2) (hS.rd.src T.un64 (got_one more)) (by omega) (by omega) ?_
           clear hA a hS; intro A123 c123 w hc123 hS a hA
           have ge123 : want.length + more.length = (want ++ more).length := by simp
           change Sat W w (row 66 3 (.slice A123 (want.length + more.length) c123) (want.length + more.length) (want.flatMap encG ++ more.flatMap encG) :: _) at hS
           rw [ge123, ← List.flatMap_append] at hS
           rw [ge123] at hA
           refine go1 hA rfl rfl rfl (r_assign (hA.ev rfl)) ?_; clear hA a; intro a hA
           refine wpList_nil ?_
           refine hk50 _ _ ?_
           clear hk50 k50
           replace hA := hA.keep (.cons (i := 1) rfl (.cons (i := 3) rfl (.cons (i := 5) rfl (.cons (i := 6) rfl (.cons (i := 7) rfl (.cons (i := 9) rfl (.cons (i := 10) rfl (.cons (i := 11) rfl (.cons (i := 13) rfl (.cons (i := 14) rfl (.cons (i := 15) rfl (.cons (i := 17) rfl (.cons (i := 18) rfl .nil)))))))))))))
           refine wp_seq_k fun k51 hk51 => ?_
           refine wp_seq_k fun k52 hk52 => ?_
           refine wp_region_lit ?_
           refine go1 hA rfl rfl rfl (r_move (hA.ev rfl)) ?_; clear hA a; intro a hA
           refine go1s hA rfl rfl rfl (r_neq (hA.ev rfl) (hA.ev rfl)) ?_ ?_
           · clear hA a; intro h125 a hA
             rw [nestO_out hF (nestIn_out hG (by rw [hcl]; exact hM) h125) h125] at hN
             simp only [Prod.mk.injEq] at hN
             obtain ⟨rfl, hgi2, rfl, rfl, rfl⟩ := hN
             try (first | contradiction | (exfalso; omega) | (exfalso; simp at h125; done))
             all_goals
              skip
              refine wpList_nil ?_
              refine hk52 _ _ ?_
              clear hk52 k52
              replace hA := hA.keep (.cons (i := 1) rfl (.cons (i := 3) rfl (.cons (i := 5) rfl (.cons (i := 6) rfl (.cons (i := 7) rfl (.cons (i := 9) rfl (.cons (i := 10) rfl (.cons (i := 11) rfl (.cons (i := 13) rfl (.cons (i := 14) rfl (.cons (i := 15) rfl (.cons (i := 17) rfl (.cons (i := 18) rfl (.cons (i := 125) rfl .nil))))))))))))))
              refine wp_cond_true (hA.ev rfl) ?_
              refine wp_seq_k fun k53 hk53 => ?_
              refine wp_region_lit ?_
              refine go1 hA rfl rfl rfl (r_load (hA.ev rfl) T.fl4 (by first | exact hS.cell rfl | exact (hS.p 1).cell rfl | exact (hS.p 2).cell rfl | exact (hS.p 3).cell rfl | exact (hS.p 4).cell rfl | exact (hS.p 5).cell rfl | exact (hS.p 6).cell rfl | exact (hS.p 7).cell rfl | exact (hS.p 8).cell rfl | exact (hS.p 9).cell rfl | exact (hS.p 10).cell rfl | exact (hS.p 11).cell rfl | exact (hS.p 12).cell rfl | exact (hS.p 13).cell rfl)) ?_; clear hA a; intro a hA
              refine go1 hA rfl rfl rfl (r_not (hA.ev rfl)) ?_; clear hA a; intro a hA
              refine go1 hA rfl rfl rfl (r_move (hA.ev rfl)) ?_; clear hA a; intro a hA
              refine go1y hA (wanted_yes hA rfl rfl rfl) rfl rfl (r_move (hA.ev rfl)) ?_; clear hA a; intro a hA
              refine go1y hA (wanted_yes hA rfl rfl rfl) rfl rfl (r_move (hA.ev rfl)) ?_; clear hA a; intro a hA
              refine go1y hA (wanted_yes hA rfl rfl rfl) rfl rfl (as_t (r_eql (hA.ev rfl) (hA.ev rfl)) (by omega)) ?_; clear hA a; intro a hA
              refine go1 hA rfl rfl rfl (r_pick_t (hA.ev rfl) (hA.ev rfl)) ?_; clear hA a; intro a hA
              refine go1 hA rfl rfl rfl (r_move (hA.ev rfl)) ?_; clear hA a; intro a hA
              refine go1y hA (wanted_yes hA rfl rfl rfl) rfl rfl (r_load (hA.ev rfl) T.fl64 (by first | exact hS.cell rfl | exact (hS.p 1).cell rfl | exact (hS.p 2).cell rfl | exact (hS.p 3).cell rfl | exact (hS.p 4).cell rfl | exact (hS.p 5).cell rfl | exact (hS.p 6).cell rfl | exact (hS.p 7).cell rfl | exact (hS.p 8).cell rfl | exact (hS.p 9).cell rfl | exact (hS.p 10).cell rfl | exact (hS.p 11).cell rfl | exact (hS.p 12).cell rfl | exact (hS.p 13).cell rfl)) ?_; clear hA a; intro a hA
              refine go1y hA (wanted_yes hA rfl rfl rfl) rfl rfl (r_move (hA.ev rfl)) ?_; clear hA a; intro a hA
              refine goFy hA (wanted_yes hA rfl rfl rfl) rfl T.en34 rfl (alike_calls _ _ _ _ _ (want ++ more) (got_cut (hS.p 4).rd) hS.rd (by first | omega | (simp; omega))) ?_
              clear hA a; rintro e w ⟨rfl, hT⟩; replace hS : Sat _ _ (_ :: _) := hS.rebase hT; clear hT
              refine ⟨_, rfl, ?_⟩; intro a hA
              refine go1 hA rfl rfl rfl (r_pick_t (hA.ev rfl) (hA.ev rfl)) ?_; clear hA a; intro a hA
              refine go1 hA rfl rfl rfl (r_assign (hA.ev rfl)) ?_; clear hA a; intro a hA
              refine wpList_nil ?_
              refine hk53 _ _ ?_
              clear hk53 k53
              replace hA := hA.keep (.cons (i := 1) rfl (.cons (i := 2) rfl (.cons (i := 3) rfl (.cons (i := 5) rfl (.cons (i := 6) rfl (.cons (i := 7) rfl (.cons (i := 9) rfl (.cons (i := 10) rfl (.cons (i := 11) rfl (.cons (i := 13) rfl (.cons (i := 14) rfl (.cons (i := 15) rfl (.cons (i := 17) rfl .nil)))))))))))))
              refine wp_ret ?_
              refine then_ret ?_; clear hk51 k51
              refine then_ret ?_; clear hk17 k17
              refine end1 hA rfl rfl ?_
              exact ⟨rfl, Sat.none_ hS⟩
           · clear hA a; intro h125 a hA
             obtain rfl : h = 0 := by omega
             rw [nestO_ok hF (nestIn_ok hG (by rw [hcl]; exact hM))] at hN
             simp only [Prod.mk.injEq] at hN
             obtain ⟨rfl, hgi2, hx, rfl, hee⟩ := hN
             try (first | contradiction | (exfalso; omega) | (exfalso; simp at h125; done))
             all_goals
              skip
              refine wpList_nil ?_
              refine hk52 _ _ ?_
              clear hk52 k52
              replace hA := hA.keep (.cons (i := 1) rfl (.cons (i := 3) rfl (.cons (i := 5) rfl (.cons (i := 6) rfl (.cons (i := 7) rfl (.cons (i := 9) rfl (.cons (i := 10) rfl (.cons (i := 11) rfl (.cons (i := 13) rfl (.cons (i := 14) rfl (.cons (i := 15) rfl (.cons (i := 17) rfl (.cons (i := 18) rfl (.cons (i := 125) rfl .nil))))))))))))))
              refine wp_cond_false (hA.ev rfl) ?_
              refine wp_skip ?_
              refine hk51 _ _ ?_
              clear hk51 k51
              replace hA := hA.keep (.cons (i := 1) rfl (.cons (i := 3) rfl (.cons (i := 5) rfl (.cons (i := 6) rfl (.cons (i := 7) rfl (.cons (i := 9) rfl (.cons (i := 10) rfl (.cons (i := 11) rfl (.cons (i := 13) rfl (.cons (i := 14) rfl (.cons (i := 15) rfl (.cons (i := 17) rfl .nil))))))))))))
              refine wp_seq_k fun k54 hk54 => ?_
              refine wp_region_lit ?_
              refine go1 hA rfl rfl rfl (r_move (hA.ev rfl)) ?_; clear hA a; intro a hA
              refine go1 hA rfl rfl rfl (r_assign (hA.ev rfl)) ?_; clear hA a; intro a hA
              refine wpList_nil ?_
              refine hk54 _ _ ?_
              clear hk54 k54
              replace hA := hA.keep (.cons (i := 1) rfl (.cons (i := 3) rfl (.cons (i := 5) rfl (.cons (i := 6) rfl (.cons (i := 7) rfl (.cons (i := 9) rfl (.cons (i := 10) rfl (.cons (i := 11) rfl (.cons (i := 13) rfl (.cons (i := 14) rfl (.cons (i := 15) rfl .nil)))))))))))
              refine wp_seq_k fun k55 hk55 => ?_
              refine wp_seq_k fun k56 hk56 => ?_
              refine wp_region_lit ?_
              refine go1 hA rfl rfl rfl (r_move (hA.ev rfl)) ?_; clear hA a; intro a hA
              refine go1 hA rfl rfl rfl (r_field (hA.ev rfl) T.fo76_1) ?_; clear hA a; intro a hA
              refine go1 hA rfl rfl rfl (r_load (hA.ev rfl) T.fl22 (by first | exact hS.cell rfl | exact (hS.p 1).cell rfl | exact (hS.p 2).cell rfl | exact (hS.p 3).cell rfl | exact (hS.p 4).cell rfl | exact (hS.p 5).cell rfl | exact (hS.p 6).cell rfl | exact (hS.p 7).cell rfl | exact (hS.p 8).cell rfl | exact (hS.p 9).cell rfl | exact (hS.p 10).cell rfl | exact (hS.p 11).cell rfl | exact (hS.p 12).cell rfl | exact (hS.p 13).cell rfl)) ?_; clear hA a; intro a hA
              refine go1 hA rfl rfl rfl (r_lens (hA.ev rfl) T.un22) ?_; clear hA a; intro a hA
              refine go1s hA rfl rfl rfl (r_lss (hA.ev rfl) (hA.ev rfl)) ?_ ?_
              · clear hA a; intro h143 a hA
                try (first | contradiction | (exfalso; omega) | (exfalso; simp at h143; done))
                all_goals
                 skip
                 refine wpList_nil ?_
                 refine hk56 _ _ ?_
                 clear hk56 k56
                 replace hA := hA.keep (.cons (i := 1) rfl (.cons (i := 3) rfl (.cons (i := 5) rfl (.cons (i := 6) rfl (.cons (i := 7) rfl (.cons (i := 9) rfl (.cons (i := 10) rfl (.cons (i := 11) rfl (.cons (i := 14) rfl (.cons (i := 15) rfl (.cons (i := 143) rfl .nil)))))))))))
                 refine wp_cond_true (hA.ev rfl) ?_
                 refine wp_region_lit ?_
                 refine go1 hA rfl rfl rfl (r_assign (hA.ev rfl)) ?_; clear hA a; intro a hA
                 refine wpList_nil ?_
                 refine hk55 _ _ ?_
                 clear hk55 k55
                 replace hA := hA.keep (.cons (i := 1) rfl (.cons (i := 3) rfl (.cons (i := 5) rfl (.cons (i := 6) rfl (.cons (i := 7) rfl (.cons (i := 9) rfl (.cons (i := 10) rfl (.cons (i := 11) rfl (.cons (i := 14) rfl (.cons (i := 15) rfl .nil))))))))))
                 refine wp_seq_k fun k57 hk57 => ?_
                 refine wp_region_lit ?_
                 refine go1 hA rfl rfl rfl (r_move (hA.ev rfl)) ?_; clear hA a; intro a hA
                 refine go1 hA rfl rfl rfl (r_field (hA.ev rfl) T.fo76_4) ?_; clear hA a; intro a hA
                 refine go1 hA rfl rfl rfl (r_load (hA.ev rfl) T.fl63 (by first | exact hS.cell rfl | exact (hS.p 1).cell rfl | exact (hS.p 2).cell rfl | exact (hS.p 3).cell rfl | exact (hS.p 4).cell rfl | exact (hS.p 5).cell rfl | exact (hS.p 6).cell rfl | exact (hS.p 7).cell rfl | exact (hS.p 8).cell rfl | exact (hS.p 9).cell rfl | exact (hS.p 10).cell rfl | exact (hS.p 11).cell rfl | exact (hS.p 12).cell rfl | exact (hS.p 13).cell rfl)) ?_; clear hA a; intro a hA
                 refine go1 hA rfl rfl rfl (r_lens (hA.ev rfl) T.un63) ?_; clear hA a; intro a hA
                 refine go1s hA rfl rfl rfl (r_lss (hA.ev rfl) (hA.ev rfl)) ?_ ?_
                 · clear hA a; intro h148 a hA
                   try (first | contradiction | (exfalso; omega) | (exfalso; simp at h148; done))
                   all_goals
                    skip
                    refine wpList_nil ?_
                    refine hk57 _ _ ?_
                    clear hk57 k57
                    replace hA := hA.keep (.cons (i := 1) rfl (.cons (i := 3) rfl (.cons (i := 5) rfl (.cons (i := 6) rfl (.cons (i := 7) rfl (.cons (i := 9) rfl (.cons (i := 10) rfl (.cons (i := 11) rfl (.cons (i := 14) rfl (.cons (i := 148) rfl .nil))))))))))
                    refine wp_cond_true (hA.ev rfl) ?_
                    refine wp_region_lit ?_
                    refine go1 hA rfl rfl rfl (r_assign (hA.ev rfl)) ?_; clear hA a; intro a hA
                    refine wpList_nil ?_
                    refine hk17 _ _ ?_
                    clear hk17 k17
                    replace hA := hA.keep (.cons (i := 1) rfl (.cons (i := 3) rfl (.cons (i := 5) rfl (.cons (i := 6) rfl (.cons (i := 7) rfl (.cons (i := 9) rfl (.cons (i := 10) rfl (.cons (i := 11) rfl (.cons (i := 14) rfl .nil)))))))))
                    refine wp_seq_k fun k58 hk58 => ?_
                    refine wp_seq_k fun k59 hk59 => ?_
                    refine wp_region_lit ?_
                    refine go1 hA rfl rfl rfl (r_move (hA.ev rfl)) ?_; clear hA a; intro a hA
                    refine go1 hA rfl rfl rfl (r_field (hA.ev rfl) T.fo76_0) ?_; clear hA a; intro a hA
                    refine go1 hA rfl rfl rfl (r_load (hA.ev rfl) T.fl22 (by first | exact hS.cell rfl | exact (hS.p 1).cell rfl | exact (hS.p 2).cell rfl | exact (hS.p 3).cell rfl | exact (hS.p 4).cell rfl | exact (hS.p 5).cell rfl | exact (hS.p 6).cell rfl | exact (hS.p 7).cell rfl | exact (hS.p 8).cell rfl | exact (hS.p 9).cell rfl | exact (hS.p 10).cell rfl | exact (hS.p 11).cell rfl | exact (hS.p 12).cell rfl | exact (hS.p 13).cell rfl)) ?_; clear hA a; intro a hA
                    refine go1 hA rfl rfl rfl (r_lens (hA.ev rfl) T.un22) ?_; clear hA a; intro a hA
                    refine go1s hA rfl rfl rfl (r_lss (hA.ev rfl) (hA.ev rfl)) ?_ ?_
                    · clear hA a; intro h153 a hA
                      try (first | contradiction | (exfalso; omega) | (exfalso; simp at h153; done))
                      all_goals
                       skip
                       refine wpList_nil ?_
                       refine hk59 _ _ ?_
                       clear hk59 k59
                       replace hA := hA.keep (.cons (i := 3) rfl (.cons (i := 5) rfl (.cons (i := 6) rfl (.cons (i := 7) rfl (.cons (i := 9) rfl (.cons (i := 11) rfl (.cons (i := 14) rfl (.cons (i := 153) rfl .nil))))))))
                       refine wp_cond_true (hA.ev rfl) ?_
                       refine wp_region_lit ?_
                       refine go1 hA rfl rfl rfl (r_assign (hA.ev rfl)) ?_; clear hA a; intro a hA
                       refine wpList_nil ?_
                       refine hk58 _ _ ?_
                       clear hk58 k58
                       replace hA := hA.keep (.cons (i := 3) rfl (.cons (i := 5) rfl (.cons (i := 6) rfl (.cons (i := 7) rfl (.cons (i := 9) rfl (.cons (i := 11) rfl (.cons (i := 14) rfl .nil)))))))
                       refine wp_seq_k fun k60 hk60 => ?_
                       refine wp_region_lit ?_
                       refine go1 hA rfl rfl rfl (r_load (hA.ev rfl) T.fl4 (by first | exact hS.cell rfl | exact (hS.p 1).cell rfl | exact (hS.p 2).cell rfl | exact (hS.p 3).cell rfl | exact (hS.p 4).cell rfl | exact (hS.p 5).cell rfl | exact (hS.p 6).cell rfl | exact (hS.p 7).cell rfl | exact (hS.p 8).cell rfl | exact (hS.p 9).cell rfl | exact (hS.p 10).cell rfl | exact (hS.p 11).cell rfl | exact (hS.p 12).cell rfl | exact (hS.p 13).cell rfl)) ?_; clear hA a; intro a hA
                       refine go1 hA rfl rfl rfl (r_move (hA.ev rfl)) ?_; clear hA a; intro a hA
                       try (first | rw [if_pos (by omega)] at hx | rw [if_neg (by omega), if_pos (by omega)] at hx | rw [if_neg (by omega), if_neg (by omega)] at hx)
                       refine go1y hA (wanted_yes hA rfl rfl rfl) rfl rfl (r_load (hA.ev rfl) T.fl23 (by first | exact hS.cell rfl | exact (hS.p 1).cell rfl | exact (hS.p 2).cell rfl | exact (hS.p 3).cell rfl | exact (hS.p 4).cell rfl | exact (hS.p 5).cell rfl | exact (hS.p 6).cell rfl | exact (hS.p 7).cell rfl | exact (hS.p 8).cell rfl | exact (hS.p 9).cell rfl | exact (hS.p 10).cell rfl | exact (hS.p 11).cell rfl | exact (hS.p 12).cell rfl | exact (hS.p 13).cell rfl)) ?_; clear hA a; intro a hA
                       refine go1y hA (wanted_yes hA rfl rfl rfl) rfl rfl (r_move (hA.ev rfl)) ?_; clear hA a; intro a hA
                       refine go1y hA (wanted_yes hA rfl rfl rfl) rfl rfl (as_t (r_eql (hA.ev rfl) (hA.ev rfl)) (by omega)) ?_; clear hA a; intro a hA
                       refine go1 hA rfl rfl rfl (r_pick_t (hA.ev rfl) (hA.ev rfl)) ?_; clear hA a; intro a hA
                       refine go1 hA rfl rfl rfl (r_move (hA.ev rfl)) ?_; clear hA a; intro a hA
                       first | rw [if_pos (by omega)] at hee | rw [if_neg (by omega)] at hee
                       refine go1y hA (wanted_yes hA rfl rfl rfl) rfl rfl (r_move (hA.ev rfl)) ?_; clear hA a; intro a hA
                       refine go1y hA (wanted_yes hA rfl rfl rfl) rfl rfl (r_move (hA.ev rfl)) ?_; clear hA a; intro a hA
                       refine go1y hA (wanted_yes hA rfl rfl rfl) rfl rfl (as_t (r_eql (hA.ev rfl) (hA.ev rfl)) (by omega)) ?_; clear hA a; intro a hA
                       refine go1 hA rfl rfl rfl (r_pick_t (hA.ev rfl) (hA.ev rfl)) ?_; clear hA a; intro a hA
                       refine go1 hA rfl rfl rfl (r_move (hA.ev rfl)) ?_; clear hA a; intro a hA
                       refine go1y hA (wanted_yes hA rfl rfl rfl) rfl rfl (r_load (hA.ev rfl) T.fl64 (by first | exact hS.cell rfl | exact (hS.p 1).cell rfl | exact (hS.p 2).cell rfl | exact (hS.p 3).cell rfl | exact (hS.p 4).cell rfl | exact (hS.p 5).cell rfl | exact (hS.p 6).cell rfl | exact (hS.p 7).cell rfl | exact (hS.p 8).cell rfl | exact (hS.p 9).cell rfl | exact (hS.p 10).cell rfl | exact (hS.p 11).cell rfl | exact (hS.p 12).cell rfl | exact (hS.p 13).cell rfl)) ?_; clear hA a; intro a hA
                       refine go1y hA (wanted_yes hA rfl rfl rfl) rfl rfl (r_move (hA.ev rfl)) ?_; clear hA a; intro a hA
                       refine goFy hA (wanted_yes hA rfl rfl rfl) rfl T.en34 rfl (alike_calls _ _ _ _ _ _ (by first | exact got_cut (hS.p 4).rd | exact got_cut (hS.p 3).rd) (by first | exact hS.rd | exact (hS.p 1).rd) (by first | omega | (simp; omega))) ?_
                       clear hA a; rintro e w ⟨rfl, hT⟩; replace hS : Sat _ _ (_ :: _) := hS.rebase hT; clear hT
                       refine ⟨_, rfl, ?_⟩; intro a hA
                       refine go1 hA rfl rfl rfl (r_pick_t (hA.ev rfl) (hA.ev rfl)) ?_; clear hA a; intro a hA
                       refine go1 hA rfl rfl rfl (r_assign (hA.ev rfl)) ?_; clear hA a; intro a hA
                       refine wpList_nil ?_
                       refine hk60 _ _ ?_
                       clear hk60 k60
                       replace hA := hA.keep (.cons (i := 2) rfl .nil)
                       refine wp_ret ?_
                       refine end1 hA rfl rfl ?_
                       exact ⟨rfl, Sat.none_ hS⟩
                    · clear hA a; intro h153 a hA
                      try (first | contradiction | (exfalso; omega) | (exfalso; simp at h153; done))
                      all_goals
                       skip
                       refine wpList_nil ?_
                       refine hk59 _ _ ?_
                       clear hk59 k59
                       replace hA := hA.keep (.cons (i := 3) rfl (.cons (i := 5) rfl (.cons (i := 6) rfl (.cons (i := 7) rfl (.cons (i := 9) rfl (.cons (i := 11) rfl (.cons (i := 14) rfl (.cons (i := 153) rfl .nil))))))))
                       refine wp_cond_false (hA.ev rfl) ?_
                       refine wp_skip ?_
                       refine hk58 _ _ ?_
                       clear hk58 k58
                       replace hA := hA.keep (.cons (i := 3) rfl (.cons (i := 5) rfl (.cons (i := 6) rfl (.cons (i := 7) rfl (.cons (i := 9) rfl (.cons (i := 11) rfl (.cons (i := 14) rfl .nil)))))))
                       refine wp_seq_k fun k61 hk61 => ?_
                       refine wp_region_lit ?_
                       refine go1 hA rfl rfl rfl (r_load (hA.ev rfl) T.fl4 (by first | exact hS.cell rfl | exact (hS.p 1).cell rfl | exact (hS.p 2).cell rfl | exact (hS.p 3).cell rfl | exact (hS.p 4).cell rfl | exact (hS.p 5).cell rfl | exact (hS.p 6).cell rfl | exact (hS.p 7).cell rfl | exact (hS.p 8).cell rfl | exact (hS.p 9).cell rfl | exact (hS.p 10).cell rfl | exact (hS.p 11).cell rfl | exact (hS.p 12).cell rfl | exact (hS.p 13).cell rfl)) ?_; clear hA a; intro a hA
                       refine go1 hA rfl rfl rfl (r_move (hA.ev rfl)) ?_; clear hA a; intro a hA
                       try (first | rw [if_pos (by omega)] at hx | rw [if_neg (by omega), if_pos (by omega)] at hx | rw [if_neg (by omega), if_neg (by omega)] at hx)
                       refine go1y hA (wanted_yes hA rfl rfl rfl) rfl rfl (r_load (hA.ev rfl) T.fl23 (by first | exact hS.cell rfl | exact (hS.p 1).cell rfl | exact (hS.p 2).cell rfl | exact (hS.p 3).cell rfl | exact (hS.p 4).cell rfl | exact (hS.p 5).cell rfl | exact (hS.p 6).cell rfl | exact (hS.p 7).cell rfl | exact (hS.p 8).cell rfl | exact (hS.p 9).cell rfl | exact (hS.p 10).cell rfl | exact (hS.p 11).cell rfl | exact (hS.p 12).cell rfl | exact (hS.p 13).cell rfl)) ?_; clear hA a; intro a hA
                       refine go1y hA (wanted_yes hA rfl rfl rfl) rfl rfl (r_move (hA.ev rfl)) ?_; clear hA a; intro a hA
                       refine go1y hA (wanted_yes hA rfl rfl rfl) rfl rfl (as_t (r_eql (hA.ev rfl) (hA.ev rfl)) (by omega)) ?_; clear hA a; intro a hA
                       refine go1 hA rfl rfl rfl (r_pick_t (hA.ev rfl) (hA.ev rfl)) ?_; clear hA a; intro a hA
                       refine go1 hA rfl rfl rfl (r_move (hA.ev rfl)) ?_; clear hA a; intro a hA
                       first | rw [if_pos (by omega)] at hee | rw [if_neg (by omega)] at hee
                       refine go1y hA (wanted_yes hA rfl rfl rfl) rfl rfl (r_move (hA.ev rfl)) ?_; clear hA a; intro a hA
                       refine go1y hA (wanted_yes hA rfl rfl rfl) rfl rfl (r_move (hA.ev rfl)) ?_; clear hA a; intro a hA
                       refine go1y hA (wanted_yes hA rfl rfl rfl) rfl rfl (as_t (r_eql (hA.ev rfl) (hA.ev rfl)) (by omega)) ?_; clear hA a; intro a hA
                       refine go1 hA rfl rfl rfl (r_pick_t (hA.ev rfl) (hA.ev rfl)) ?_; clear hA a; intro a hA
                       refine go1 hA rfl rfl rfl (r_move (hA.ev rfl)) ?_; clear hA a; intro a hA
                       refine go1y hA (wanted_yes hA rfl rfl rfl) rfl rfl (r_load (hA.ev rfl) T.fl64 (by first | exact hS.cell rfl | exact (hS.p 1).cell rfl | exact (hS.p 2).cell rfl | exact (hS.p 3).cell rfl | exact (hS.p 4).cell rfl | exact (hS.p 5).cell rfl | exact (hS.p 6).cell rfl | exact (hS.p 7).cell rfl | exact (hS.p 8).cell rfl | exact (hS.p 9).cell rfl | exact (hS.p 10).cell rfl | exact (hS.p 11).cell rfl | exact (hS.p 12).cell rfl | exact (hS.p 13).cell rfl)) ?_; clear hA a; intro a hA
                       refine go1y hA (wanted_yes hA rfl rfl rfl) rfl rfl (r_move (hA.ev rfl)) ?_; clear hA a; intro a hA
                       refine goFy hA (wanted_yes hA rfl rfl rfl) rfl T.en34 rfl (alike_calls _ _ _ _ _ _ (by first | exact got_cut (hS.p 4).rd | exact got_cut (hS.p 3).rd) (by first | exact hS.rd | exact (hS.p 1).rd) (by first | omega | (simp; omega))) ?_
                       clear hA a; rintro e w ⟨rfl, hT⟩; replace hS : Sat _ _ (_ :: _) := hS.rebase hT; clear hT
                       refine ⟨_, rfl, ?_⟩; intro a hA
                       refine go1 hA rfl rfl rfl (r_pick_t (hA.ev rfl) (hA.ev rfl)) ?_; clear hA a; intro a hA
                       refine go1 hA rfl rfl rfl (r_assign (hA.ev rfl)) ?_; clear hA a; intro a hA
                       refine wpList_nil ?_
                       refine hk61 _ _ ?_
                       clear hk61 k61
                       replace hA := hA.keep (.cons (i := 2) rfl .nil)
                       refine wp_ret ?_
                       refine end1 hA rfl rfl ?_
                       exact ⟨rfl, Sat.none_ hS⟩
                 · clear hA a; intro h148 a hA
                   try (first | contradiction | (exfalso; omega) | (exfalso; simp at h148; done))
                   all_goals
                    skip
                    refine wpList_nil ?_
                    refine hk57 _ _ ?_
                    clear hk57 k57
                    replace hA := hA.keep (.cons (i := 1) rfl (.cons (i := 3) rfl (.cons (i := 5) rfl (.cons (i := 6) rfl (.cons (i := 7) rfl (.cons (i := 9) rfl (.cons (i := 10) rfl (.cons (i := 11) rfl (.cons (i := 14) rfl (.cons (i := 148) rfl .nil))))))))))
                    refine wp_cond_false (hA.ev rfl) ?_
                    refine wp_skip ?_
                    refine hk17 _ _ ?_
                    clear hk17 k17
                    replace hA := hA.keep (.cons (i := 1) rfl (.cons (i := 3) rfl (.cons (i := 5) rfl (.cons (i := 6) rfl (.cons (i := 7) rfl (.cons (i := 9) rfl (.cons (i := 10) rfl (.cons (i := 11) rfl (.cons (i := 14) rfl .nil)))))))))
                    refine wp_seq_k fun k62 hk62 => ?_
                    refine wp_seq_k fun k63 hk63 => ?_
                    refine wp_region_lit ?_
                    refine go1 hA rfl rfl rfl (r_move (hA.ev rfl)) ?_; clear hA a; intro a hA
                    refine go1 hA rfl rfl rfl (r_field (hA.ev rfl) T.fo76_0) ?_; clear hA a; intro a hA
                    refine go1 hA rfl rfl rfl (r_load (hA.ev rfl) T.fl22 (by first | exact hS.cell rfl | exact (hS.p 1).cell rfl | exact (hS.p 2).cell rfl | exact (hS.p 3).cell rfl | exact (hS.p 4).cell rfl | exact (hS.p 5).cell rfl | exact (hS.p 6).cell rfl | exact (hS.p 7).cell rfl | exact (hS.p 8).cell rfl | exact (hS.p 9).cell rfl | exact (hS.p 10).cell rfl | exact (hS.p 11).cell rfl | exact (hS.p 12).cell rfl | exact (hS.p 13).cell rfl)) ?_; clear hA a; intro a hA
                    refine go1 hA rfl rfl rfl (r_lens (hA.ev rfl) T.un22) ?_; clear hA a; intro a hA
                    refine go1s hA rfl rfl rfl (r_lss (hA.ev rfl) (hA.ev rfl)) ?_ ?_
                    · clear hA a; intro h153 a hA
                      try (first | contradiction | (exfalso; omega) | (exfalso; simp at h153; done))
                      all_goals
                       skip
                       refine wpList_nil ?_
                       refine hk63 _ _ ?_
                       clear hk63 k63
                       replace hA := hA.keep (.cons (i := 3) rfl (.cons (i := 5) rfl (.cons (i := 6) rfl (.cons (i := 7) rfl (.cons (i := 9) rfl (.cons (i := 11) rfl (.cons (i := 14) rfl (.cons (i := 153) rfl .nil))))))))
                       refine wp_cond_true (hA.ev rfl) ?_
                       refine wp_region_lit ?_
                       refine go1 hA rfl rfl rfl (r_assign (hA.ev rfl)) ?_; clear hA a; intro a hA
                       refine wpList_nil ?_
                       refine hk62 _ _ ?_
                       clear hk62 k62
                       replace hA := hA.keep (.cons (i := 3) rfl (.cons (i := 5) rfl (.cons (i := 6) rfl (.cons (i := 7) rfl (.cons (i := 9) rfl (.cons (i := 11) rfl (.cons (i := 14) rfl .nil)))))))
                       refine wp_seq_k fun k64 hk64 => ?_
                       refine wp_region_lit ?_
                       refine go1 hA rfl rfl rfl (r_load (hA.ev rfl) T.fl4 (by first | exact hS.cell rfl | exact (hS.p 1).cell rfl | exact (hS.p 2).cell rfl | exact (hS.p 3).cell rfl | exact (hS.p 4).cell rfl | exact (hS.p 5).cell rfl | exact (hS.p 6).cell rfl | exact (hS.p 7).cell rfl | exact (hS.p 8).cell rfl | exact (hS.p 9).cell rfl | exact (hS.p 10).cell rfl | exact (hS.p 11).cell rfl | exact (hS.p 12).cell rfl | exact (hS.p 13).cell rfl)) ?_; clear hA a; intro a hA
                       refine go1 hA rfl rfl rfl (r_move (hA.ev rfl)) ?_; clear hA a; intro a hA
                       try (first | rw [if_pos (by omega)] at hx | rw [if_neg (by omega), if_pos (by omega)] at hx | rw [if_neg (by omega), if_neg (by omega)] at hx)
                       refine go1y hA (wanted_yes hA rfl rfl rfl) rfl rfl (r_load (hA.ev rfl) T.fl23 (by first | exact hS.cell rfl | exact (hS.p 1).cell rfl | exact (hS.p 2).cell rfl | exact (hS.p 3).cell rfl | exact (hS.p 4).cell rfl | exact (hS.p 5).cell rfl | exact (hS.p 6).cell rfl | exact (hS.p 7).cell rfl | exact (hS.p 8).cell rfl | exact (hS.p 9).cell rfl | exact (hS.p 10).cell rfl | exact (hS.p 11).cell rfl | exact (hS.p 12).cell rfl | exact (hS.p 13).cell rfl)) ?_; clear hA a; intro a hA
                       refine go1y hA (wanted_yes hA rfl rfl rfl) rfl rfl (r_move (hA.ev rfl)) ?_; clear hA a; intro a hA
                       refine go1y hA (wanted_yes hA rfl rfl rfl) rfl rfl (as_t (r_eql (hA.ev rfl) (hA.ev rfl)) (by omega)) ?_; clear hA a; intro a hA
                       refine go1 hA rfl rfl rfl (r_pick_t (hA.ev rfl) (hA.ev rfl)) ?_; clear hA a; intro a hA
                       refine go1 hA rfl rfl rfl (r_move (hA.ev rfl)) ?_; clear hA a; intro a hA
                       first | rw [if_pos (by omega)] at hee | rw [if_neg (by omega)] at hee
                       refine go1y hA (wanted_yes hA rfl rfl rfl) rfl rfl (r_move (hA.ev rfl)) ?_; clear hA a; intro a hA
                       refine go1y hA (wanted_yes hA rfl rfl rfl) rfl rfl (r_move (hA.ev rfl)) ?_; clear hA a; intro a hA
                       refine go1y hA (wanted_yes hA rfl rfl rfl) rfl rfl (as_t (r_eql (hA.ev rfl) (hA.ev rfl)) (by omega)) ?_; clear hA a; intro a hA
                       refine go1 hA rfl rfl rfl (r_pick_t (hA.ev rfl) (hA.ev rfl)) ?_; clear hA a; intro a hA
                       refine go1 hA rfl rfl rfl (r_move (hA.ev rfl)) ?_; clear hA a; intro a hA
                       refine go1y hA (wanted_yes hA rfl rfl rfl) rfl rfl (r_load (hA.ev rfl) T.fl64 (by first | exact hS.cell rfl | exact (hS.p 1).cell rfl | exact (hS.p 2).cell rfl | exact (hS.p 3).cell rfl | exact (hS.p 4).cell rfl | exact (hS.p 5).cell rfl | exact (hS.p 6).cell rfl | exact (hS.p 7).cell rfl | exact (hS.p 8).cell rfl | exact (hS.p 9).cell rfl | exact (hS.p 10).cell rfl | exact (hS.p 11).cell rfl | exact (hS.p 12).cell rfl | exact (hS.p 13).cell rfl)) ?_; clear hA a; intro a hA
                       refine go1y hA (wanted_yes hA rfl rfl rfl) rfl rfl (r_move (hA.ev rfl)) ?_; clear hA a; intro a hA
                       refine goFy hA (wanted_yes hA rfl rfl rfl) rfl T.en34 rfl (alike_calls _ _ _ _ _ _ (by first | exact got_cut (hS.p 4).rd | exact got_cut (hS.p 3).rd) (by first | exact hS.rd | exact (hS.p 1).rd) (by first | omega | (simp; omega))) ?_
                       clear hA a; rintro e w ⟨rfl, hT⟩; replace hS : Sat _ _ (_ :: _) := hS.rebase hT; clear hT
                       refine ⟨_, rfl, ?_⟩; intro a hA
                       refine go1 hA rfl rfl rfl (r_pick_t (hA.ev rfl) (hA.ev rfl)) ?_; clear hA a; intro a hA
                       refine go1 hA rfl rfl rfl (r_assign (hA.ev rfl)) ?_; clear hA a; intro a hA
                       refine wpList_nil ?_
                       refine hk64 _ _ ?_
                       clear hk64 k64
                       replace hA := hA.keep (.cons (i := 2) rfl .nil)
                       refine wp_ret ?_
                       refine end1 hA rfl rfl ?_
                       exact ⟨rfl, Sat.none_ hS⟩
                    · clear hA a; intro h153 a hA
                      try (first | contradiction | (exfalso; omega) | (exfalso; simp at h153; done))
                      all_goals
                       skip
                       refine wpList_nil ?_
                       refine hk63 _ _ ?_
                       clear hk63 k63
                       replace hA := hA.keep (.cons (i := 3) rfl (.cons (i := 5) rfl (.cons (i := 6) rfl (.cons (i := 7) rfl (.cons (i := 9) rfl (.cons (i := 11) rfl (.cons (i := 14) rfl (.cons (i := 153) rfl .nil))))))))
                       refine wp_cond_false (hA.ev rfl) ?_
                       refine wp_skip ?_
                       refine hk62 _ _ ?_
                       clear hk62 k62
                       replace hA := hA.keep (.cons (i := 3) rfl (.cons (i := 5) rfl (.cons (i := 6) rfl (.cons (i := 7) rfl (.cons (i := 9) rfl (.cons (i := 11) rfl (.cons (i := 14) rfl .nil)))))))
                       refine wp_seq_k fun k65 hk65 => ?_
                       refine wp_region_lit ?_
                       refine go1 hA rfl rfl rfl (r_load (hA.ev rfl) T.fl4 (by first | exact hS.cell rfl | exact (hS.p 1).cell rfl | exact (hS.p 2).cell rfl | exact (hS.p 3).cell rfl | exact (hS.p 4).cell rfl | exact (hS.p 5).cell rfl | exact (hS.p 6).cell rfl | exact (hS.p 7).cell rfl | exact (hS.p 8).cell rfl | exact (hS.p 9).cell rfl | exact (hS.p 10).cell rfl | exact (hS.p 11).cell rfl | exact (hS.p 12).cell rfl | exact (hS.p 13).cell rfl)) ?_; clear hA a; intro a hA
                       refine go1 hA rfl rfl rfl (r_move (hA.ev rfl)) ?_; clear hA a; intro a hA
                       try (first | rw [if_pos (by omega)] at hx | rw [if_neg (by omega), if_pos (by omega)] at hx | rw [if_neg (by omega), if_neg (by omega)] at hx)
                       refine go1y hA (wanted_yes hA rfl rfl rfl) rfl rfl (r_load (hA.ev rfl) T.fl23 (by first | exact hS.cell rfl | exact (hS.p 1).cell rfl | exact (hS.p 2).cell rfl | exact (hS.p 3).cell rfl | exact (hS.p 4).cell rfl | exact (hS.p 5).cell rfl | exact (hS.p 6).cell rfl | exact (hS.p 7).cell rfl | exact (hS.p 8).cell rfl | exact (hS.p 9).cell rfl | exact (hS.p 10).cell rfl | exact (hS.p 11).cell rfl | exact (hS.p 12).cell rfl | exact (hS.p 13).cell rfl)) ?_; clear hA a; intro a hA
                       refine go1y hA (wanted_yes hA rfl rfl rfl) rfl rfl (r_move (hA.ev rfl)) ?_; clear hA a; intro a hA
                       refine go1y hA (wanted_yes hA rfl rfl rfl) rfl rfl (as_t (r_eql (hA.ev rfl) (hA.ev rfl)) (by omega)) ?_; clear hA a; intro a hA
                       refine go1 hA rfl rfl rfl (r_pick_t (hA.ev rfl) (hA.ev rfl)) ?_; clear hA a; intro a hA
                       refine go1 hA rfl rfl rfl (r_move (hA.ev rfl)) ?_; clear hA a; intro a hA
                       first | rw [if_pos (by omega)] at hee | rw [if_neg (by omega)] at hee
                       refine go1y hA (wanted_yes hA rfl rfl rfl) rfl rfl (r_move (hA.ev rfl)) ?_; clear hA a; intro a hA
                       refine go1y hA (wanted_yes hA rfl rfl rfl) rfl rfl (r_move (hA.ev rfl)) ?_; clear hA a; intro a hA
                       refine go1y hA (wanted_yes hA rfl rfl rfl) rfl rfl (as_t (r_eql (hA.ev rfl) (hA.ev rfl)) (by omega)) ?_; clear hA a; intro a hA
                       refine go1 hA rfl rfl rfl (r_pick_t (hA.ev rfl) (hA.ev rfl)) ?_; clear hA a; intro a hA
                       refine go1 hA rfl rfl rfl (r_move (hA.ev rfl)) ?_; clear hA a; intro a hA
                       refine go1y hA (wanted_yes hA rfl rfl rfl) rfl rfl (r_load (hA.ev rfl) T.fl64 (by first | exact hS.cell rfl | exact (hS.p 1).cell rfl | exact (hS.p 2).cell rfl | exact (hS.p 3).cell rfl | exact (hS.p 4).cell rfl | exact (hS.p 5).cell rfl | exact (hS.p 6).cell rfl | exact (hS.p 7).cell rfl | exact (hS.p 8).cell rfl | exact (hS.p 9).cell rfl | exact (hS.p 10).cell rfl | exact (hS.p 11).cell rfl | exact (hS.p 12).cell rfl | exact (hS.p 13).cell rfl)) ?_; clear hA a; intro a hA
                       refine go1y hA (wanted_yes hA rfl rfl rfl) rfl rfl (r_move (hA.ev rfl)) ?_; clear hA a; intro a hA
                       refine goFy hA (wanted_yes hA rfl rfl rfl) rfl T.en34 rfl (alike_calls _ _ _ _ _ _ (by first | exact got_cut (hS.p 4).rd | exact got_cut (hS.p 3).rd) (by first | exact hS.rd | exact (hS.p 1).rd) (by first | omega | (simp; omega))) ?_
                       clear hA a; rintro e w ⟨rfl, hT⟩; replace hS : Sat _ _ (_ :: _) := hS.rebase hT; clear hT
                       refine ⟨_, rfl, ?_⟩; intro a hA
                       refine go1 hA rfl rfl rfl (r_pick_t (hA.ev rfl) (hA.ev rfl)) ?_; clear hA a; intro a hA
                       refine go1 hA rfl rfl rfl (r_assign (hA.ev rfl)) ?_; clear hA a; intro a hA
                       refine wpList_nil ?_
                       refine hk65 _ _ ?_
                       clear hk65 k65
                       replace hA := hA.keep (.cons (i := 2) rfl .nil)
                       refine wp_ret ?_
                       refine end1 hA rfl rfl ?_
                       exact ⟨rfl, Sat.none_ hS⟩
              · clear hA a; intro h143 a hA
                try (first | contradiction | (exfalso; omega) | (exfalso; simp at h143; done))
                all_goals
                 skip
                 refine wpList_nil ?_
                 refine hk56 _ _ ?_
                 clear hk56 k56
                 replace hA := hA.keep (.cons (i := 1) rfl (.cons (i := 3) rfl (.cons (i := 5) rfl (.cons (i := 6) rfl (.cons (i := 7) rfl (.cons (i := 9) rfl (.cons (i := 10) rfl (.cons (i := 11) rfl (.cons (i := 14) rfl (.cons (i := 15) rfl (.cons (i := 143) rfl .nil)))))))))))
                 refine wp_cond_false (hA.ev rfl) ?_
                 refine wp_skip ?_
                 refine hk55 _ _ ?_
                 clear hk55 k55
                 replace hA := hA.keep (.cons (i := 1) rfl (.cons (i := 3) rfl (.cons (i := 5) rfl (.cons (i := 6) rfl (.cons (i := 7) rfl (.cons (i := 9) rfl (.cons (i := 10) rfl (.cons (i := 11) rfl (.cons (i := 14) rfl (.cons (i := 15) rfl .nil))))))))))
                 refine wp_seq_k fun k66 hk66 => ?_
                 refine wp_region_lit ?_
                 refine go1 hA rfl rfl rfl (r_move (hA.ev rfl)) ?_; clear hA a; intro a hA
                 refine go1 hA rfl rfl rfl (r_field (hA.ev rfl) T.fo76_4) ?_; clear hA a; intro a hA
                 refine go1 hA rfl rfl rfl (r_load (hA.ev rfl) T.fl63 (by first | exact hS.cell rfl | exact (hS.p 1).cell rfl | exact (hS.p 2).cell rfl | exact (hS.p 3).cell rfl | exact (hS.p 4).cell rfl | exact (hS.p 5).cell rfl | exact (hS.p 6).cell rfl | exact (hS.p 7).cell rfl | exact (hS.p 8).cell rfl | exact (hS.p 9).cell rfl | exact (hS.p 10).cell rfl | exact (hS.p 11).cell rfl | exact (hS.p 12).cell rfl | exact (hS.p 13).cell rfl)) ?_; clear hA a; intro a hA
                 refine go1 hA rfl rfl rfl (r_lens (hA.ev rfl) T.un63) ?_; clear hA a; intro a hA
                 refine go1s hA rfl rfl rfl (r_lss (hA.ev rfl) (hA.ev rfl)) ?_ ?_
                 · clear hA a; intro h148 a hA
                   try (first | contradiction | (exfalso; omega) | (exfalso; simp at h148; done))
                   all_goals
                    skip
                    refine wpList_nil ?_
                    refine hk66 _ _ ?_
                    clear hk66 k66
                    replace hA := hA.keep (.cons (i := 1) rfl (.cons (i := 3) rfl (.cons (i := 5) rfl (.cons (i := 6) rfl (.cons (i := 7) rfl (.cons (i := 9) rfl (.cons (i := 10) rfl (.cons (i := 11) rfl (.cons (i := 14) rfl (.cons (i := 148) rfl .nil))))))))))
                    refine wp_cond_true (hA.ev rfl) ?_
                    refine wp_region_lit ?_
                    refine go1 hA rfl rfl rfl (r_assign (hA.ev rfl)) ?_; clear hA a; intro a hA
                    refine wpList_nil ?_
                    refine hk17 _ _ ?_
                    clear hk17 k17
                    replace hA := hA.keep (.cons (i := 1) rfl (.cons (i := 3) rfl (.cons (i := 5) rfl (.cons (i := 6) rfl (.cons (i := 7) rfl (.cons (i := 9) rfl (.cons (i := 10) rfl (.cons (i := 11) rfl (.cons (i := 14) rfl .nil)))))))))
                    refine wp_seq_k fun k67 hk67 => ?_
                    refine wp_seq_k fun k68 hk68 => ?_
                    refine wp_region_lit ?_
                    refine go1 hA rfl rfl rfl (r_move (hA.ev rfl)) ?_; clear hA a; intro a hA
                    refine go1 hA rfl rfl rfl (r_field (hA.ev rfl) T.fo76_0) ?_; clear hA a; intro a hA
                    refine go1 hA rfl rfl rfl (r_load (hA.ev rfl) T.fl22 (by first | exact hS.cell rfl | exact (hS.p 1).cell rfl | exact (hS.p 2).cell rfl | exact (hS.p 3).cell rfl | exact (hS.p 4).cell rfl | exact (hS.p 5).cell rfl | exact (hS.p 6).cell rfl | exact (hS.p 7).cell rfl | exact (hS.p 8).cell rfl | exact (hS.p 9).cell rfl | exact (hS.p 10).cell rfl | exact (hS.p 11).cell rfl | exact (hS.p 12).cell rfl | exact (hS.p 13).cell rfl)) ?_; clear hA a; intro a hA
                    refine go1 hA rfl rfl rfl (r_lens (hA.ev rfl) T.un22) ?_; clear hA a; intro a hA
                    refine go1s hA rfl rfl rfl (r_lss (hA.ev rfl) (hA.ev rfl)) ?_ ?_
                    · clear hA a; intro h153 a hA
                      try (first | contradiction | (exfalso; omega) | (exfalso; simp at h153; done))
                      all_goals
                       skip
                       refine wpList_nil ?_
                       refine hk68 _ _ ?_
                       clear hk68 k68
                       replace hA := hA.keep (.cons (i := 3) rfl (.cons (i := 5) rfl (.cons (i := 6) rfl (.cons (i := 7) rfl (.cons (i := 9) rfl (.cons (i := 11) rfl (.cons (i := 14) rfl (.cons (i := 153) rfl .nil))))))))
                       refine wp_cond_true (hA.ev rfl) ?_
                       refine wp_region_lit ?_
                       refine go1 hA rfl rfl rfl (r_assign (hA.ev rfl)) ?_; clear hA a; intro a hA
                       refine wpList_nil ?_
                       refine hk67 _ _ ?_
                       clear hk67 k67
                       replace hA := hA.keep (.cons (i := 3) rfl (.cons (i := 5) rfl (.cons (i := 6) rfl (.cons (i := 7) rfl (.cons (i := 9) rfl (.cons (i := 11) rfl (.cons (i := 14) rfl .nil)))))))
                       refine wp_seq_k fun k69 hk69 => ?_
                       refine wp_region_lit ?_
                       refine go1 hA rfl rfl rfl (r_load (hA.ev rfl) T.fl4 (by first | exact hS.cell rfl | exact (hS.p 1).cell rfl | exact (hS.p 2).cell rfl | exact (hS.p 3).cell rfl | exact (hS.p 4).cell rfl | exact (hS.p 5).cell rfl | exact (hS.p 6).cell rfl | exact (hS.p 7).cell rfl | exact (hS.p 8).cell rfl | exact (hS.p 9).cell rfl | exact (hS.p 10).cell rfl | exact (hS.p 11).cell rfl | exact (hS.p 12).cell rfl | exact (hS.p 13).cell rfl)) ?_; clear hA a; intro a hA
                       refine go1 hA rfl rfl rfl (r_move (hA.ev rfl)) ?_; clear hA a; intro a hA
                       try (first | rw [if_pos (by omega)] at hx | rw [if_neg (by omega), if_pos (by omega)] at hx | rw [if_neg (by omega), if_neg (by omega)] at hx)
                       refine go1y hA (wanted_yes hA rfl rfl rfl) rfl rfl (r_load (hA.ev rfl) T.fl23 (by first | exact hS.cell rfl | exact (hS.p 1).cell rfl | exact (hS.p 2).cell rfl | exact (hS.p 3).cell rfl | exact (hS.p 4).cell rfl | exact (hS.p 5).cell rfl | exact (hS.p 6).cell rfl | exact (hS.p 7).cell rfl | exact (hS.p 8).cell rfl | exact (hS.p 9).cell rfl | exact (hS.p 10).cell rfl | exact (hS.p 11).cell rfl | exact (hS.p 12).cell rfl | exact (hS.p 13).cell rfl)) ?_; clear hA a; intro a hA
                       refine go1y hA (wanted_yes hA rfl rfl rfl) rfl rfl (r_move (hA.ev rfl)) ?_; clear hA a; intro a hA
                       refine go1y hA (wanted_yes hA rfl rfl rfl) rfl rfl (as_t (r_eql (hA.ev rfl) (hA.ev rfl)) (by omega)) ?_; clear hA a; intro a hA
                       refine go1 hA rfl rfl rfl (r_pick_t (hA.ev rfl) (hA.ev rfl)) ?_; clear hA a; intro a hA
                       refine go1 hA rfl rfl rfl (r_move (hA.ev rfl)) ?_; clear hA a; intro a hA
                       first | rw [if_pos (by omega)] at hee | rw [if_neg (by omega)] at hee
                       refine go1y hA (wanted_yes hA rfl rfl rfl) rfl rfl (r_move (hA.ev rfl)) ?_; clear hA a; intro a hA
                       refine go1y hA (wanted_yes hA rfl rfl rfl) rfl rfl (r_move (hA.ev rfl)) ?_; clear hA a; intro a hA
                       refine go1y hA (wanted_yes hA rfl rfl rfl) rfl rfl (as_t (r_eql (hA.ev rfl) (hA.ev rfl)) (by omega)) ?_; clear hA a; intro a hA
                       refine go1 hA rfl rfl rfl (r_pick_t (hA.ev rfl) (hA.ev rfl)) ?_; clear hA a; intro a hA
                       refine go1 hA rfl rfl rfl (r_move (hA.ev rfl)) ?_; clear hA a; intro a hA
                       refine go1y hA (wanted_yes hA rfl rfl rfl) rfl rfl (r_load (hA.ev rfl) T.fl64 (by first | exact hS.cell rfl | exact (hS.p 1).cell rfl | exact (hS.p 2).cell rfl | exact (hS.p 3).cell rfl | exact (hS.p 4).cell rfl | exact (hS.p 5).cell rfl | exact (hS.p 6).cell rfl | exact (hS.p 7).cell rfl | exact (hS.p 8).cell rfl | exact (hS.p 9).cell rfl | exact (hS.p 10).cell rfl | exact (hS.p 11).cell rfl | exact (hS.p 12).cell rfl | exact (hS.p 13).cell rfl)) ?_; clear hA a; intro a hA
                       refine go1y hA (wanted_yes hA rfl rfl rfl) rfl rfl (r_move (hA.ev rfl)) ?_; clear hA a; intro a hA
                       refine goFy hA (wanted_yes hA rfl rfl rfl) rfl T.en34 rfl (alike_calls _ _ _ _ _ _ (by first | exact got_cut (hS.p 4).rd | exact got_cut (hS.p 3).rd) (by first | exact hS.rd | exact (hS.p 1).rd) (by first | omega | (simp; omega))) ?_
                       clear hA a; rintro e w ⟨rfl, hT⟩; replace hS : Sat _ _ (_ :: _) := hS.rebase hT; clear hT
                       refine ⟨_, rfl, ?_⟩; intro a hA
                       refine go1 hA rfl rfl rfl (r_pick_t (hA.ev rfl) (hA.ev rfl)) ?_; clear hA a; intro a hA
                       refine go1 hA rfl rfl rfl (r_assign (hA.ev rfl)) ?_; clear hA a; intro a hA
                       refine wpList_nil ?_
                       refine hk69 _ _ ?_
                       clear hk69 k69
                       replace hA := hA.keep (.cons (i := 2) rfl .nil)
                       refine wp_ret ?_
                       refine end1 hA rfl rfl ?_
                       exact ⟨rfl, Sat.none_ hS⟩
                    · clear hA a; intro h153 a hA
                      try (first | contradiction | (exfalso; omega) | (exfalso; simp at h153; done))
                      all_goals
                       skip
                       refine wpList_nil ?_
                       refine hk68 _ _ ?_
                       clear hk68 k68
                       replace hA := hA.keep (.cons (i := 3) rfl (.cons (i := 5) rfl (.cons (i := 6) rfl (.cons (i := 7) rfl (.cons (i := 9) rfl (.cons (i := 11) rfl (.cons (i := 14) rfl (.cons (i := 153) rfl .nil))))))))
                       refine wp_cond_false (hA.ev rfl) ?_
                       refine wp_skip ?_
                       refine hk67 _ _ ?_
                       clear hk67 k67
                       replace hA := hA.keep (.cons (i := 3) rfl (.cons (i := 5) rfl (.cons (i := 6) rfl (.cons (i := 7) rfl (.cons (i := 9) rfl (.cons (i := 11) rfl (.cons (i := 14) rfl .nil)))))))
                       refine wp_seq_k fun k70 hk70 => ?_
                       refine wp_region_lit ?_
                       refine go1 hA rfl rfl rfl (r_load (hA.ev rfl) T.fl4 (by first | exact hS.cell rfl | exact (hS.p 1).cell rfl | exact (hS.p 2).cell rfl | exact (hS.p 3).cell rfl | exact (hS.p 4).cell rfl | exact (hS.p 5).cell rfl | exact (hS.p 6).cell rfl | exact (hS.p 7).cell rfl | exact (hS.p 8).cell rfl | exact (hS.p 9).cell rfl | exact (hS.p 10).cell rfl | exact (hS.p 11).cell rfl | exact (hS.p 12).cell rfl | exact (hS.p 13).cell rfl)) ?_; clear hA a; intro a hA
                       refine go1 hA rfl rfl rfl (r_move (hA.ev rfl)) ?_; clear hA a; intro a hA
                       try (first | rw [if_pos (by omega)] at hx | rw [if_neg (by omega), if_pos (by omega)] at hx | rw [if_neg (by omega), if_neg (by omega)] at hx)
                       refine go1y hA (wanted_yes hA rfl rfl rfl) rfl rfl (r_load (hA.ev rfl) T.fl23 (by first | exact hS.cell rfl | exact (hS.p 1).cell rfl | exact (hS.p 2).cell rfl | exact (hS.p 3).cell rfl | exact (hS.p 4).cell rfl | exact (hS.p 5).cell rfl | exact (hS.p 6).cell rfl | exact (hS.p 7).cell rfl | exact (hS.p 8).cell rfl | exact (hS.p 9).cell rfl | exact (hS.p 10).cell rfl | exact (hS.p 11).cell rfl | exact (hS.p 12).cell rfl | exact (hS.p 13).cell rfl)) ?_; clear hA a; intro a hA
                       refine go1y hA (wanted_yes hA rfl rfl rfl) rfl rfl (r_move (hA.ev rfl)) ?_; clear hA a; intro a hA
                       refine go1y hA (wanted_yes hA rfl rfl rfl) rfl rfl (as_t (r_eql (hA.ev rfl) (hA.ev rfl)) (by omega)) ?_; clear hA a; intro a hA
                       refine go1 hA rfl rfl rfl (r_pick_t (hA.ev rfl) (hA.ev rfl)) ?_; clear hA a; intro a hA
                       refine go1 hA rfl rfl rfl (r_move (hA.ev rfl)) ?_; clear hA a; intro a hA
                       first | rw [if_pos (by omega)] at hee | rw [if_neg (by omega)] at hee
                       refine go1y hA (wanted_yes hA rfl rfl rfl) rfl rfl (r_move (hA.ev rfl)) ?_; clear hA a; intro a hA
                       refine go1y hA (wanted_yes hA rfl rfl rfl) rfl rfl (r_move (hA.ev rfl)) ?_; clear hA a; intro a hA
                       refine go1y hA (wanted_yes hA rfl rfl rfl) rfl rfl (as_t (r_eql (hA.ev rfl) (hA.ev rfl)) (by omega)) ?_; clear hA a; intro a hA
                       refine go1 hA rfl rfl rfl (r_pick_t (hA.ev rfl) (hA.ev rfl)) ?_; clear hA a; intro a hA
                       refine go1 hA rfl rfl rfl (r_move (hA.ev rfl)) ?_; clear hA a; intro a hA
                       refine go1y hA (wanted_yes hA rfl rfl rfl) rfl rfl (r_load (hA.ev rfl) T.fl64 (by first | exact hS.cell rfl | exact (hS.p 1).cell rfl | exact (hS.p 2).cell rfl | exact (hS.p 3).cell rfl | exact (hS.p 4).cell rfl | exact (hS.p 5).cell rfl | exact (hS.p 6).cell rfl | exact (hS.p 7).cell rfl | exact (hS.p 8).cell rfl | exact (hS.p 9).cell rfl | exact (hS.p 10).cell rfl | exact (hS.p 11).cell rfl | exact (hS.p 12).cell rfl | exact (hS.p 13).cell rfl)) ?_; clear hA a; intro a hA
                       refine go1y hA (wanted_yes hA rfl rfl rfl) rfl rfl (r_move (hA.ev rfl)) ?_; clear hA a; intro a hA
                       refine goFy hA (wanted_yes hA rfl rfl rfl) rfl T.en34 rfl (alike_calls _ _ _ _ _ _ (by first | exact got_cut (hS.p 4).rd | exact got_cut (hS.p 3).rd) (by first | exact hS.rd | exact (hS.p 1).rd) (by first | omega | (simp; omega))) ?_
                       clear hA a; rintro e w ⟨rfl, hT⟩; replace hS : Sat _ _ (_ :: _) := hS.rebase hT; clear hT
                       refine ⟨_, rfl, ?_⟩; intro a hA
                       refine go1 hA rfl rfl rfl (r_pick_t (hA.ev rfl) (hA.ev rfl)) ?_; clear hA a; intro a hA
                       refine go1 hA rfl rfl rfl (r_assign (hA.ev rfl)) ?_; clear hA a; intro a hA
                       refine wpList_nil ?_
                       refine hk70 _ _ ?_
                       clear hk70 k70
                       replace hA := hA.keep (.cons (i := 2) rfl .nil)
                       refine wp_ret ?_
                       refine end1 hA rfl rfl ?_
                       exact ⟨rfl, Sat.none_ hS⟩
                 · clear hA a; intro h148 a hA
                   try (first | contradiction | (exfalso; omega) | (exfalso; simp at h148; done))
                   all_goals
                    skip
                    refine wpList_nil ?_
                    refine hk66 _ _ ?_
                    clear hk66 k66
                    replace hA := hA.keep (.cons (i := 1) rfl (.cons (i := 3) rfl (.cons (i := 5) rfl (.cons (i := 6) rfl (.cons (i := 7) rfl (.cons (i := 9) rfl (.cons (i := 10) rfl (.cons (i := 11) rfl (.cons (i := 14) rfl (.cons (i := 148) rfl .nil))))))))))
                    refine wp_cond_false (hA.ev rfl) ?_
                    refine wp_skip ?_
                    refine hk17 _ _ ?_
                    clear hk17 k17
                    replace hA := hA.keep (.cons (i := 1) rfl (.cons (i := 3) rfl (.cons (i := 5) rfl (.cons (i := 6) rfl (.cons (i := 7) rfl (.cons (i := 9) rfl (.cons (i := 10) rfl (.cons (i := 11) rfl (.cons (i := 14) rfl .nil)))))))))
                    refine wp_seq_k fun k71 hk71 => ?_
                    refine wp_seq_k fun k72 hk72 => ?_
                    refine wp_region_lit ?_
                    refine go1 hA rfl rfl rfl (r_move (hA.ev rfl)) ?_; clear hA a; intro a hA
                    refine go1 hA rfl rfl rfl (r_field (hA.ev rfl) T.fo76_0) ?_; clear hA a; intro a hA
                    refine go1 hA rfl rfl rfl (r_load (hA.ev rfl) T.fl22 (by first | exact hS.cell rfl | exact (hS.p 1).cell rfl | exact (hS.p 2).cell rfl | exact (hS.p 3).cell rfl | exact (hS.p 4).cell rfl | exact (hS.p 5).cell rfl | exact (hS.p 6).cell rfl | exact (hS.p 7).cell rfl | exact (hS.p 8).cell rfl | exact (hS.p 9).cell rfl | exact (hS.p 10).cell rfl | exact (hS.p 11).cell rfl | exact (hS.p 12).cell rfl | exact (hS.p 13).cell rfl)) ?_; clear hA a; intro a hA
                    refine go1 hA rfl rfl rfl (r_lens (hA.ev rfl) T.un22) ?_; clear hA a; intro a hA
                    refine go1s hA rfl rfl rfl (r_lss (hA.ev rfl) (hA.ev rfl)) ?_ ?_
                    · clear hA a; intro h153 a hA
                      try (first | contradiction | (exfalso; omega) | (exfalso; simp at h153; done))
                      all_goals
                       skip
                       refine wpList_nil ?_
                       refine hk72 _ _ ?_
                       clear hk72 k72
                       replace hA := hA.keep (.cons (i := 3) rfl (.cons (i := 5) rfl (.cons (i := 6) rfl (.cons (i := 7) rfl (.cons (i := 9) rfl (.cons (i := 11) rfl (.cons (i := 14) rfl (.cons (i := 153) rfl .nil))))))))
                       refine wp_cond_true (hA.ev rfl) ?_
                       refine wp_region_lit ?_
                       refine go1 hA rfl rfl rfl (r_assign (hA.ev rfl)) ?_; clear hA a; intro a hA
                       refine wpList_nil ?_
                       refine hk71 _ _ ?_
                       clear hk71 k71
                       replace hA := hA.keep (.cons (i := 3) rfl (.cons (i := 5) rfl (.cons (i := 6) rfl (.cons (i := 7) rfl (.cons (i := 9) rfl (.cons (i := 11) rfl (.cons (i := 14) rfl .nil)))))))
                       refine wp_seq_k fun k73 hk73 => ?_
                       refine wp_region_lit ?_
                       refine go1 hA rfl rfl rfl (r_load (hA.ev rfl) T.fl4 (by first | exact hS.cell rfl | exact (hS.p 1).cell rfl | exact (hS.p 2).cell rfl | exact (hS.p 3).cell rfl | exact (hS.p 4).cell rfl | exact (hS.p 5).cell rfl | exact (hS.p 6).cell rfl | exact (hS.p 7).cell rfl | exact (hS.p 8).cell rfl | exact (hS.p 9).cell rfl | exact (hS.p 10).cell rfl | exact (hS.p 11).cell rfl | exact (hS.p 12).cell rfl | exact (hS.p 13).cell rfl)) ?_; clear hA a; intro a hA
                       refine go1 hA rfl rfl rfl (r_move (hA.ev rfl)) ?_; clear hA a; intro a hA
                       try (first | rw [if_pos (by omega)] at hx | rw [if_neg (by omega), if_pos (by omega)] at hx | rw [if_neg (by omega), if_neg (by omega)] at hx)
                       refine go1y hA (wanted_yes hA rfl rfl rfl) rfl rfl (r_load (hA.ev rfl) T.fl23 (by first | exact hS.cell rfl | exact (hS.p 1).cell rfl | exact (hS.p 2).cell rfl | exact (hS.p 3).cell rfl | exact (hS.p 4).cell rfl | exact (hS.p 5).cell rfl | exact (hS.p 6).cell rfl | exact (hS.p 7).cell rfl | exact (hS.p 8).cell rfl | exact (hS.p 9).cell rfl | exact (hS.p 10).cell rfl | exact (hS.p 11).cell rfl | exact (hS.p 12).cell rfl | exact (hS.p 13).cell rfl)) ?_; clear hA a; intro a hA
                       refine go1y hA (wanted_yes hA rfl rfl rfl) rfl rfl (r_move (hA.ev rfl)) ?_; clear hA a; intro a hA
                       refine go1y hA (wanted_yes hA rfl rfl rfl) rfl rfl (as_t (r_eql (hA.ev rfl) (hA.ev rfl)) (by omega)) ?_; clear hA a; intro a hA
                       refine go1 hA rfl rfl rfl (r_pick_t (hA.ev rfl) (hA.ev rfl)) ?_; clear hA a; intro a hA
                       refine go1 hA rfl rfl rfl (r_move (hA.ev rfl)) ?_; clear hA a; intro a hA
                       first | rw [if_pos (by omega)] at hee | rw [if_neg (by omega)] at hee
                       refine go1y hA (wanted_yes hA rfl rfl rfl) rfl rfl (r_move (hA.ev rfl)) ?_; clear hA a; intro a hA
                       refine go1y hA (wanted_yes hA rfl rfl rfl) rfl rfl (r_move (hA.ev rfl)) ?_; clear hA a; intro a hA
                       refine go1y hA (wanted_yes hA rfl rfl rfl) rfl rfl (as_t (r_eql (hA.ev rfl) (hA.ev rfl)) (by omega)) ?_; clear hA a; intro a hA
                       refine go1 hA rfl rfl rfl (r_pick_t (hA.ev rfl) (hA.ev rfl)) ?_; clear hA a; intro a hA
                       refine go1 hA rfl rfl rfl (r_move (hA.ev rfl)) ?_; clear hA a; intro a hA
                       refine go1y hA (wanted_yes hA rfl rfl rfl) rfl rfl (r_load (hA.ev rfl) T.fl64 (by first | exact hS.cell rfl | exact (hS.p 1).cell rfl | exact (hS.p 2).cell rfl | exact (hS.p 3).cell rfl | exact (hS.p 4).cell rfl | exact (hS.p 5).cell rfl | exact (hS.p 6).cell rfl | exact (hS.p 7).cell rfl | exact (hS.p 8).cell rfl | exact (hS.p 9).cell rfl | exact (hS.p 10).cell rfl | exact (hS.p 11).cell rfl | exact (hS.p 12).cell rfl | exact (hS.p 13).cell rfl)) ?_; clear hA a; intro a hA
                       refine go1y hA (wanted_yes hA rfl rfl rfl) rfl rfl (r_move (hA.ev rfl)) ?_; clear hA a; intro a hA
                       refine goFy hA (wanted_yes hA rfl rfl rfl) rfl T.en34 rfl (alike_calls _ _ _ _ _ _ (by first | exact got_cut (hS.p 4).rd | exact got_cut (hS.p 3).rd) (by first | exact hS.rd | exact (hS.p 1).rd) (by first | omega | (simp; omega))) ?_
                       clear hA a; rintro e w ⟨rfl, hT⟩; replace hS : Sat _ _ (_ :: _) := hS.rebase hT; clear hT
                       refine ⟨_, rfl, ?_⟩; intro a hA
                       refine go1 hA rfl rfl rfl (r_pick_t (hA.ev rfl) (hA.ev rfl)) ?_; clear hA a; intro a hA
                       refine go1 hA rfl rfl rfl (r_assign (hA.ev rfl)) ?_; clear hA a; intro a hA
                       refine wpList_nil ?_
                       refine hk73 _ _ ?_
                       clear hk73 k73
                       replace hA := hA.keep (.cons (i := 2) rfl .nil)
                       refine wp_ret ?_
                       refine end1 hA rfl rfl ?_
                       exact ⟨rfl, Sat.none_ hS⟩
                    · clear hA a; intro h153 a hA
                      try (first | contradiction | (exfalso; omega) | (exfalso; simp at h153; done))
                      all_goals
                       skip
                       refine wpList_nil ?_
                       refine hk72 _ _ ?_
                       clear hk72 k72
                       replace hA := hA.keep (.cons (i := 3) rfl (.cons (i := 5) rfl (.cons (i := 6) rfl (.cons (i := 7) rfl (.cons (i := 9) rfl (.cons (i := 11) rfl (.cons (i := 14) rfl (.cons (i := 153) rfl .nil))))))))
                       refine wp_cond_false (hA.ev rfl) ?_
                       refine wp_skip ?_
                       refine hk71 _ _ ?_
                       clear hk71 k71
                       replace hA := hA.keep (.cons (i := 3) rfl (.cons (i := 5) rfl (.cons (i := 6) rfl (.cons (i := 7) rfl (.cons (i := 9) rfl (.cons (i := 11) rfl (.cons (i := 14) rfl .nil)))))))
                       refine wp_seq_k fun k74 hk74 => ?_
                       refine wp_region_lit ?_
                       refine go1 hA rfl rfl rfl (r_load (hA.ev rfl) T.fl4 (by first | exact hS.cell rfl | exact (hS.p 1).cell rfl | exact (hS.p 2).cell rfl | exact (hS.p 3).cell rfl | exact (hS.p 4).cell rfl | exact (hS.p 5).cell rfl | exact (hS.p 6).cell rfl | exact (hS.p 7).cell rfl | exact (hS.p 8).cell rfl | exact (hS.p 9).cell rfl | exact (hS.p 10).cell rfl | exact (hS.p 11).cell rfl | exact (hS.p 12).cell rfl | exact (hS.p 13).cell rfl)) ?_; clear hA a; intro a hA
                       refine go1 hA rfl rfl rfl (r_move (hA.ev rfl)) ?_; clear hA a; intro a hA
                       try (first | rw [if_pos (by omega)] at hx | rw [if_neg (by omega), if_pos (by omega)] at hx | rw [if_neg (by omega), if_neg (by omega)] at hx)
                       refine go1y hA (wanted_yes hA rfl rfl rfl) rfl rfl (r_load (hA.ev rfl) T.fl23 (by first | exact hS.cell rfl | exact (hS.p 1).cell rfl | exact (hS.p 2).cell rfl | exact (hS.p 3).cell rfl | exact (hS.p 4).cell rfl | exact (hS.p 5).cell rfl | exact (hS.p 6).cell rfl | exact (hS.p 7).cell rfl | exact (hS.p 8).cell rfl | exact (hS.p 9).cell rfl | exact (hS.p 10).cell rfl | exact (hS.p 11).cell rfl | exact (hS.p 12).cell rfl | exact (hS.p 13).cell rfl)) ?_; clear hA a; intro a hA
                       refine go1y hA (wanted_yes hA rfl rfl rfl) rfl rfl (r_move (hA.ev rfl)) ?_; clear hA a; intro a hA
                       refine go1y hA (wanted_yes hA rfl rfl rfl) rfl rfl (as_t (r_eql (hA.ev rfl) (hA.ev rfl)) (by omega)) ?_; clear hA a; intro a hA
                       refine go1 hA rfl rfl rfl (r_pick_t (hA.ev rfl) (hA.ev rfl)) ?_; clear hA a; intro a hA
                       refine go1 hA rfl rfl rfl (r_move (hA.ev rfl)) ?_; clear hA a; intro a hA
                       first | rw [if_pos (by omega)] at hee | rw [if_neg (by omega)] at hee
                       refine go1y hA (wanted_yes hA rfl rfl rfl) rfl rfl (r_move (hA.ev rfl)) ?_; clear hA a; intro a hA
                       refine go1y hA (wanted_yes hA rfl rfl rfl) rfl rfl (r_move (hA.ev rfl)) ?_; clear hA a; intro a hA
                       refine go1y hA (wanted_yes hA rfl rfl rfl) rfl rfl (as_t (r_eql (hA.ev rfl) (hA.ev rfl)) (by omega)) ?_; clear hA a; intro a hA
                       refine go1 hA rfl rfl rfl (r_pick_t (hA.ev rfl) (hA.ev rfl)) ?_; clear hA a; intro a hA
                       refine go1 hA rfl rfl rfl (r_move (hA.ev rfl)) ?_; clear hA a; intro a hA
                       refine go1y hA (wanted_yes hA rfl rfl rfl) rfl rfl (r_load (hA.ev rfl) T.fl64 (by first | exact hS.cell rfl | exact (hS.p 1).cell rfl | exact (hS.p 2).cell rfl | exact (hS.p 3).cell rfl | exact (hS.p 4).cell rfl | exact (hS.p 5).cell rfl | exact (hS.p 6).cell rfl | exact (hS.p 7).cell rfl | exact (hS.p 8).cell rfl | exact (hS.p 9).cell rfl | exact (hS.p 10).cell rfl | exact (hS.p 11).cell rfl | exact (hS.p 12).cell rfl | exact (hS.p 13).cell rfl)) ?_; clear hA a; intro a hA
                       refine go1y hA (wanted_yes hA rfl rfl rfl) rfl rfl (r_move (hA.ev rfl)) ?_; clear hA a; intro a hA
                       refine goFy hA (wanted_yes hA rfl rfl rfl) rfl T.en34 rfl (alike_calls _ _ _ _ _ _ (by first | exact got_cut (hS.p 4).rd | exact got_cut (hS.p 3).rd) (by first | exact hS.rd | exact (hS.p 1).rd) (by first | omega | (simp; omega))) ?_
                       clear hA a; rintro e w ⟨rfl, hT⟩; replace hS : Sat _ _ (_ :: _) := hS.rebase hT; clear hT
                       refine ⟨_, rfl, ?_⟩; intro a hA
                       refine go1 hA rfl rfl rfl (r_pick_t (hA.ev rfl) (hA.ev rfl)) ?_; clear hA a; intro a hA
                       refine go1 hA rfl rfl rfl (r_assign (hA.ev rfl)) ?_; clear hA a; intro a hA
                       refine wpList_nil ?_
                       refine hk74 _ _ ?_
                       clear hk74 k74
                       replace hA := hA.keep (.cons (i := 2) rfl .nil)
                       refine wp_ret ?_
                       refine end1 hA rfl rfl ?_
                       exact ⟨rfl, Sat.none_ hS⟩
     · clear hA a; intro h92 a hA
       rw [nestO_ok hF (nestIn_err hG h92)] at hN
       simp only [Prod.mk.injEq] at hN
       obtain ⟨hgg, hgi2, hx, rfl, hee⟩ := hN
       rw [List.append_nil] at hgg
       subst hgg
       try (first | contradiction | (exfalso; omega) | (exfalso; simp at h92; done))
       all_goals
        skip
        refine wpList_nil ?_
        refine hk18 _ _ ?_
        clear hk18 k18
        replace hA := hA.keep (.cons (i := 1) rfl (.cons (i := 2) rfl (.cons (i := 3) rfl (.cons (i := 5) rfl (.cons (i := 6) rfl (.cons (i := 7) rfl (.cons (i := 9) rfl (.cons (i := 10) rfl (.cons (i := 11) rfl (.cons (i := 13) rfl (.cons (i := 14) rfl (.cons (i := 92) rfl .nil))))))))))))
        refine wp_cond_false (hA.ev rfl) ?_
        refine wp_skip ?_
        refine hk17 _ _ ?_
        clear hk17 k17
        replace hA := hA.keep (.cons (i := 1) rfl (.cons (i := 2) rfl (.cons (i := 3) rfl (.cons (i := 5) rfl (.cons (i := 6) rfl (.cons (i := 7) rfl (.cons (i := 9) rfl (.cons (i := 10) rfl (.cons (i := 11) rfl (.cons (i := 14) rfl .nil))))))))))
        refine wp_seq_k fun k75 hk75 => ?_
        refine wp_seq_k fun k76 hk76 => ?_
        refine wp_region_lit ?_
        refine go1 hA rfl rfl rfl (r_move (hA.ev rfl)) ?_; clear hA a; intro a hA
        refine go1 hA rfl rfl rfl (r_field (hA.ev rfl) T.fo76_0) ?_; clear hA a; intro a hA
        refine go1 hA rfl rfl rfl (r_load (hA.ev rfl) T.fl22 (by first | exact hS.cell rfl | exact (hS.p 1).cell rfl | exact (hS.p 2).cell rfl | exact (hS.p 3).cell rfl | exact (hS.p 4).cell rfl | exact (hS.p 5).cell rfl | exact (hS.p 6).cell rfl | exact (hS.p 7).cell rfl | exact (hS.p 8).cell rfl | exact (hS.p 9).cell rfl | exact (hS.p 10).cell rfl | exact (hS.p 11).cell rfl | exact (hS.p 12).cell rfl | exact (hS.p 13).cell rfl)) ?_; clear hA a; intro a hA
        refine go1 hA rfl rfl rfl (r_lens (hA.ev rfl) T.un22) ?_; clear hA a; intro a hA
        refine go1s hA rfl rfl rfl (r_lss (hA.ev rfl) (hA.ev rfl)) ?_ ?_
        · clear hA a; intro h153 a hA
          try (first | contradiction | (exfalso; omega) | (exfalso; simp at h153; done))
          all_goals
           skip
           refine wpList_nil ?_
           refine hk76 _ _ ?_
           clear hk76 k76
           replace hA := hA.keep (.cons (i := 2) rfl (.cons (i := 3) rfl (.cons (i := 5) rfl (.cons (i := 6) rfl (.cons (i := 7) rfl (.cons (i := 9) rfl (.cons (i := 11) rfl (.cons (i := 14) rfl (.cons (i := 153) rfl .nil)))))))))
           refine wp_cond_true (hA.ev rfl) ?_
           refine wp_region_lit ?_
           refine go1 hA rfl rfl rfl (r_assign (hA.ev rfl)) ?_; clear hA a; intro a hA
           refine wpList_nil ?_
           refine hk75 _ _ ?_
           clear hk75 k75
           replace hA := hA.keep (.cons (i := 2) rfl (.cons (i := 3) rfl (.cons (i := 5) rfl (.cons (i := 6) rfl (.cons (i := 7) rfl (.cons (i := 9) rfl (.cons (i := 11) rfl (.cons (i := 14) rfl .nil))))))))
           refine wp_seq_k fun k77 hk77 => ?_
           refine wp_region_lit ?_
           refine go1 hA rfl rfl rfl (r_load (hA.ev rfl) T.fl4 (by first | exact hS.cell rfl | exact (hS.p 1).cell rfl | exact (hS.p 2).cell rfl | exact (hS.p 3).cell rfl | exact (hS.p 4).cell rfl | exact (hS.p 5).cell rfl | exact (hS.p 6).cell rfl | exact (hS.p 7).cell rfl | exact (hS.p 8).cell rfl | exact (hS.p 9).cell rfl | exact (hS.p 10).cell rfl | exact (hS.p 11).cell rfl | exact (hS.p 12).cell rfl | exact (hS.p 13).cell rfl)) ?_; clear hA a; intro a hA
           refine go1 hA rfl rfl rfl (r_move (hA.ev rfl)) ?_; clear hA a; intro a hA
           try (first | rw [if_pos (by omega)] at hx | rw [if_neg (by omega), if_pos (by omega)] at hx | rw [if_neg (by omega), if_neg (by omega)] at hx)
           refine go1y hA (wanted_yes hA rfl rfl rfl) rfl rfl (r_load (hA.ev rfl) T.fl23 (by first | exact hS.cell rfl | exact (hS.p 1).cell rfl | exact (hS.p 2).cell rfl | exact (hS.p 3).cell rfl | exact (hS.p 4).cell rfl | exact (hS.p 5).cell rfl | exact (hS.p 6).cell rfl | exact (hS.p 7).cell rfl | exact (hS.p 8).cell rfl | exact (hS.p 9).cell rfl | exact (hS.p 10).cell rfl | exact (hS.p 11).cell rfl | exact (hS.p 12).cell rfl | exact (hS.p 13).cell rfl)) ?_; clear hA a; intro a hA
           refine go1y hA (wanted_yes hA rfl rfl rfl) rfl rfl (r_move (hA.ev rfl)) ?_; clear hA a; intro a hA
           refine go1y hA (wanted_yes hA rfl rfl rfl) rfl rfl (as_t (r_eql (hA.ev rfl) (hA.ev rfl)) (by omega)) ?_; clear hA a; intro a hA
           refine go1 hA rfl rfl rfl (r_pick_t (hA.ev rfl) (hA.ev rfl)) ?_; clear hA a; intro a hA
           refine go1 hA rfl rfl rfl (r_move (hA.ev rfl)) ?_; clear hA a; intro a hA
           first | rw [if_pos (by omega)] at hee | rw [if_neg (by omega)] at hee
           refine go1y hA (wanted_yes hA rfl rfl rfl) rfl rfl (r_move (hA.ev rfl)) ?_; clear hA a; intro a hA
           refine go1y hA (wanted_yes hA rfl rfl rfl) rfl rfl (r_move (hA.ev rfl)) ?_; clear hA a; intro a hA
           refine go1y hA (wanted_yes hA rfl rfl rfl) rfl rfl (as_t (r_eql (hA.ev rfl) (hA.ev rfl)) (by omega)) ?_; clear hA a; intro a hA
           refine go1 hA rfl rfl rfl (r_pick_t (hA.ev rfl) (hA.ev rfl)) ?_; clear hA a; intro a hA
           refine go1 hA rfl rfl rfl (r_move (hA.ev rfl)) ?_; clear hA a; intro a hA
           refine go1y hA (wanted_yes hA rfl rfl rfl) rfl rfl (r_load (hA.ev rfl) T.fl64 (by first | exact hS.cell rfl | exact (hS.p 1).cell rfl | exact (hS.p 2).cell rfl | exact (hS.p 3).cell rfl | exact (hS.p 4).cell rfl | exact (hS.p 5).cell rfl | exact (hS.p 6).cell rfl | exact (hS.p 7).cell rfl | exact (hS.p 8).cell rfl | exact (hS.p 9).cell rfl | exact (hS.p 10).cell rfl | exact (hS.p 11).cell rfl | exact (hS.p 12).cell rfl | exact (hS.p 13).cell rfl)) ?_; clear hA a; intro a hA
           refine go1y hA (wanted_yes hA rfl rfl rfl) rfl rfl (r_move (hA.ev rfl)) ?_; clear hA a; intro a hA
           refine goFy hA (wanted_yes hA rfl rfl rfl) rfl T.en34 rfl (alike_calls _ _ _ _ _ _ (by first | exact got_cut (hS.p 4).rd | exact got_cut (hS.p 3).rd) (by first | exact hS.rd | exact (hS.p 1).rd) (by first | omega | (simp; omega))) ?_
           clear hA a; rintro e w ⟨rfl, hT⟩; replace hS : Sat _ _ (_ :: _) := hS.rebase hT; clear hT
           refine ⟨_, rfl, ?_⟩; intro a hA
           refine go1 hA rfl rfl rfl (r_pick_t (hA.ev rfl) (hA.ev rfl)) ?_; clear hA a; intro a hA
           refine go1 hA rfl rfl rfl (r_assign (hA.ev rfl)) ?_; clear hA a; intro a hA
           refine wpList_nil ?_
           refine hk77 _ _ ?_
           clear hk77 k77
           replace hA := hA.keep (.cons (i := 2) rfl .nil)
           refine wp_ret ?_
           refine end1 hA rfl rfl ?_
           exact ⟨rfl, Sat.none_ hS⟩
        · clear hA a; intro h153 a hA
          try (first | contradiction | (exfalso; omega) | (exfalso; simp at h153; done))
          all_goals
           skip
           refine wpList_nil ?_
           refine hk76 _ _ ?_
           clear hk76 k76
           replace hA := hA.keep (.cons (i := 2) rfl (.cons (i := 3) rfl (.cons (i := 5) rfl (.cons (i := 6) rfl (.cons (i := 7) rfl (.cons (i := 9) rfl (.cons (i := 11) rfl (.cons (i := 14) rfl (.cons (i := 153) rfl .nil)))))))))
           refine wp_cond_false (hA.ev rfl) ?_
           refine wp_skip ?_
           refine hk75 _ _ ?_
           clear hk75 k75
           replace hA := hA.keep (.cons (i := 2) rfl (.cons (i := 3) rfl (.cons (i := 5) rfl (.cons (i := 6) rfl (.cons (i := 7) rfl (.cons (i := 9) rfl (.cons (i := 11) rfl (.cons (i := 14) rfl .nil))))))))
           refine wp_seq_k fun k78 hk78 => ?_
           refine wp_region_lit ?_
           refine go1 hA rfl rfl rfl (r_load (hA.ev rfl) T.fl4 (by first | exact hS.cell rfl | exact (hS.p 1).cell rfl | exact (hS.p 2).cell rfl | exact (hS.p 3).cell rfl | exact (hS.p 4).cell rfl | exact (hS.p 5).cell rfl | exact (hS.p 6).cell rfl | exact (hS.p 7).cell rfl | exact (hS.p 8).cell rfl | exact (hS.p 9).cell rfl | exact (hS.p 10).cell rfl | exact (hS.p 11).cell rfl | exact (hS.p 12).cell rfl | exact (hS.p 13).cell rfl)) ?_; clear hA a; intro a hA
           refine go1 hA rfl rfl rfl (r_move (hA.ev rfl)) ?_; clear hA a; intro a hA
           try (first | rw [if_pos (by omega)] at hx | rw [if_neg (by omega), if_pos (by omega)] at hx | rw [if_neg (by omega), if_neg (by omega)] at hx)
           refine go1y hA (wanted_yes hA rfl rfl rfl) rfl rfl (r_load (hA.ev rfl) T.fl23 (by first | exact hS.cell rfl | exact (hS.p 1).cell rfl | exact (hS.p 2).cell rfl | exact (hS.p 3).cell rfl | exact (hS.p 4).cell rfl | exact (hS.p 5).cell rfl | exact (hS.p 6).cell rfl | exact (hS.p 7).cell rfl | exact (hS.p 8).cell rfl | exact (hS.p 9).cell rfl | exact (hS.p 10).cell rfl | exact (hS.p 11).cell rfl | exact (hS.p 12).cell rfl | exact (hS.p 13).cell rfl)) ?_; clear hA a; intro a hA
           refine go1y hA (wanted_yes hA rfl rfl rfl) rfl rfl (r_move (hA.ev rfl)) ?_; clear hA a; intro a hA
           refine go1y hA (wanted_yes hA rfl rfl rfl) rfl rfl (as_t (r_eql (hA.ev rfl) (hA.ev rfl)) (by omega)) ?_; clear hA a; intro a hA
           refine go1 hA rfl rfl rfl (r_pick_t (hA.ev rfl) (hA.ev rfl)) ?_; clear hA a; intro a hA
           refine go1 hA rfl rfl rfl (r_move (hA.ev rfl)) ?_; clear hA a; intro a hA
           first | rw [if_pos (by omega)] at hee | rw [if_neg (by omega)] at hee
           refine go1y hA (wanted_yes hA rfl rfl rfl) rfl rfl (r_move (hA.ev rfl)) ?_; clear hA a; intro a hA
           refine go1y hA (wanted_yes hA rfl rfl rfl) rfl rfl (r_move (hA.ev rfl)) ?_; clear hA a; intro a hA
           refine go1y hA (wanted_yes hA rfl rfl rfl) rfl rfl (as_t (r_eql (hA.ev rfl) (hA.ev rfl)) (by omega)) ?_; clear hA a; intro a hA
           refine go1 hA rfl rfl rfl (r_pick_t (hA.ev rfl) (hA.ev rfl)) ?_; clear hA a; intro a hA
           refine go1 hA rfl rfl rfl (r_move (hA.ev rfl)) ?_; clear hA a; intro a hA
           refine go1y hA (wanted_yes hA rfl rfl rfl) rfl rfl (r_load (hA.ev rfl) T.fl64 (by first | exact hS.cell rfl | exact (hS.p 1).cell rfl | exact (hS.p 2).cell rfl | exact (hS.p 3).cell rfl | exact (hS.p 4).cell rfl | exact (hS.p 5).cell rfl | exact (hS.p 6).cell rfl | exact (hS.p 7).cell rfl | exact (hS.p 8).cell rfl | exact (hS.p 9).cell rfl | exact (hS.p 10).cell rfl | exact (hS.p 11).cell rfl | exact (hS.p 12).cell rfl | exact (hS.p 13).cell rfl)) ?_; clear hA a; intro a hA
           refine go1y hA (wanted_yes hA rfl rfl rfl) rfl rfl (r_move (hA.ev rfl)) ?_; clear hA a; intro a hA
           refine goFy hA (wanted_yes hA rfl rfl rfl) rfl T.en34 rfl (alike_calls _ _ _ _ _ _ (by first | exact got_cut (hS.p 4).rd | exact got_cut (hS.p 3).rd) (by first | exact hS.rd | exact (hS.p 1).rd) (by first | omega | (simp; omega))) ?_
           clear hA a; rintro e w ⟨rfl, hT⟩; replace hS : Sat _ _ (_ :: _) := hS.rebase hT; clear hT
           refine ⟨_, rfl, ?_⟩; intro a hA
           refine go1 hA rfl rfl rfl (r_pick_t (hA.ev rfl) (hA.ev rfl)) ?_; clear hA a; intro a hA
           refine go1 hA rfl rfl rfl (r_assign (hA.ev rfl)) ?_; clear hA a; intro a hA
           refine wpList_nil ?_
           refine hk78 _ _ ?_
           clear hk78 k78
           replace hA := hA.keep (.cons (i := 2) rfl .nil)
           refine wp_ret ?_
           refine end1 hA rfl rfl ?_
           exact ⟨rfl, Sat.none_ hS⟩
end Go.Proofs.Ytmnekmclpepclaa.Wk
