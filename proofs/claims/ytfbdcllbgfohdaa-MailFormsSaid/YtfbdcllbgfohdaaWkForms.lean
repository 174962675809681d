/- The walk of barrowlaw18.MailForms: it returns true. Conditions: the mail is read as data, at most 2 to the 43 parts. -/
import Derived.Test.YtfbdcllbgfohdaaT
import Derived.Test.YtfbdcllbgfohdaaWkMailForms
import Derived.Test.YtfbdcllbgfohdaaWkCarts
import Derived.Test.YtfbdcllbgfohdaaWkMailAcks
set_option linter.unusedVariables false
set_option linter.unusedSimpArgs false
namespace Go.Proofs.Ytfbdcllbgfohdaa.Wk
open Go Go.RowKit Go.Proofs.Ytfbdcllbgfohdaa Go.Proofs.Ytfbdcllbgfohdaa.K
theorem CheckSome_calls (w : World) (A2 A3 : Option Addr) (hR : Rd w 2 (.slice A2 1 1) 1 [.int .i64 4, .slice A3 2 2]) :
    Calls Try.prog 16 #[.agg #[.int .i64 1, .int .i64 0, .int .i64 1, .int .i64 2, .int .i64 3, .slice A2 1 1]] w fun e w' => e = .returned (.int .i64 0) ∧ Sat w w' [] :=
  (Check_calls w 1 0 1 2 3 A2 1 [⟨4, A3, 2, [255, 0]⟩] hR (by simp)).mono fun e w' ⟨er, he, hq, hS⟩ => by
    rcases hq with ⟨h1, _⟩ | h
    · subst h1; exact ⟨he, hS⟩
    · exact absurd (some_form A3) h.2
theorem CheckZero_calls (w : World) :
    Calls Try.prog 16 #[.agg #[.int .i64 0, .int .i64 0, .int .i64 0, .int .i64 0, .int .i64 0, .slice none 0 0]] w fun e w' => e = .returned (.int .i64 1) ∧ Sat w w' [] :=
  (Check_calls w 0 0 0 0 0 none 0 [] (rd_none _ _) (by simp)).mono fun e w' ⟨er, he, hq, hS⟩ => by
    rcases hq with h | ⟨h1, _⟩
    · have := h.2.2.2.2.2.1; omega
    · subst h1; exact ⟨he, hS⟩
theorem EqualSame_calls (w : World) (k f t hi : Int) :
    Calls Try.prog 15 #[.agg #[.int .i64 k, .int .i64 f, .int .i64 t, .int .i64 0, .int .i64 hi, .slice none 0 0], .agg #[.int .i64 k, .int .i64 f, .int .i64 t, .int .i64 0, .int .i64 hi, .slice none 0 0]] w fun e w' => e = .returned (.bool true) ∧ Sat w w' [] :=
  (Equal_calls w k f t 0 hi none 0 [] k f t 0 hi none 0 [] (rd_none _ _) (by simp) (rd_none _ _) (by simp) (fun p hp => by simp at hp) (fun p hp => by simp at hp)).mono fun e w' ⟨b, he, hb, hS⟩ => by
    obtain rfl : b = true := hb.2 ⟨rfl, rfl, rfl, rfl, rfl, rfl⟩
    exact ⟨he, hS⟩
theorem carts_map (ps : List PartD) : cartsOf ps = (ps.map PartD.cart).map (Value.int .i64) := by simp [cartsOf]
theorem EqualCarts_calls (w : World) (ps : List PartD) (A A2 : Option Addr) (c c2 : Nat) (h1 : Rd w 1 (.slice A ps.length c) ps.length (cartsOf ps)) (h2 : Rd w 1 (.slice A2 ps.length c2) ps.length (cartsOf ps)) (hl : ps.length ≤ 140737488355328) :
    Calls Try.prog 20 #[.slice A ps.length c, .slice A2 ps.length c2] w fun e w' => e = .returned (.bool true) ∧ Sat w w' [] := by
  rw [carts_map] at h1 h2
  have hn : (ps.map PartD.cart).length = ps.length := by simp
  have := EqualInts_calls w A c (ps.map PartD.cart) A2 c2 (ps.map PartD.cart) (by rw [hn]; exact h1) (by rw [hn]; exact h2) (by omega) (by omega)
  rw [hn] at this
  exact this.mono fun e w' ⟨he, hS⟩ => ⟨by rw [he]; simp, hS⟩
theorem Found.len {W : World} {ps : List PartD} {cart : Int} {fd : Bool} {ys : List Int} (hB : Bodies W ps) (h : Found ps cart fd ys) : ys.length ≤ 140737488355328 := by
  rcases h with ⟨_, i, p, hp, _, _, rfl⟩ | ⟨_, rfl, _⟩
  · exact (hB p (List.mem_of_getElem? hp)).2
  · simp
theorem EqualSelf_calls (w : World) (ys : List Int) (A A2 : Option Addr) (c c2 : Nat) (h1 : Rd w 1 (.slice A ys.length c) ys.length (ys.map (Value.int .u8))) (h2 : Rd w 1 (.slice A2 ys.length c2) ys.length (ys.map (Value.int .u8))) (hl : ys.length ≤ 140737488355328) :
    Calls Try.prog 23 #[.slice A ys.length c, .slice A2 ys.length c2] w fun e w' => e = .returned (.bool true) ∧ Sat w w' [] :=
  (EqualBytes_calls w A c ys A2 c2 ys h1 h2 hl hl).mono fun e w' ⟨he, hS⟩ => ⟨by rw [he]; simp, hS⟩
theorem ack_same {k f t lo hi : Int} {ps : List PartD} {k' f' t' hi' er k2 f2 t2 hi2 er2 : Int}
    (h1 : ((¬ Form k f t lo hi ps ∧ er = 1 ∧ k' = 0 ∧ f' = 0 ∧ t' = 0 ∧ hi' = 0) ∨ (Form k f t lo hi ps ∧ ¬ (k = 1 ∨ k = 2) ∧ er = 7 ∧ k' = 0 ∧ f' = 0 ∧ t' = 0 ∧ hi' = 0) ∨ (Form k f t lo hi ps ∧ (k = 1 ∨ k = 2) ∧ er = 0 ∧ k' = 3 ∧ f' = t ∧ t' = f ∧ hi' = hi))) (h2 : ((¬ Form k f t lo hi ps ∧ er2 = 1 ∧ k2 = 0 ∧ f2 = 0 ∧ t2 = 0 ∧ hi2 = 0) ∨ (Form k f t lo hi ps ∧ ¬ (k = 1 ∨ k = 2) ∧ er2 = 7 ∧ k2 = 0 ∧ f2 = 0 ∧ t2 = 0 ∧ hi2 = 0) ∨ (Form k f t lo hi ps ∧ (k = 1 ∨ k = 2) ∧ er2 = 0 ∧ k2 = 3 ∧ f2 = t ∧ t2 = f ∧ hi2 = hi))) : er = er2 ∧ k' = k2 ∧ f' = f2 ∧ t' = t2 ∧ hi' = hi2 := by
  rcases h1 with ⟨a, h⟩ | ⟨a, b, h⟩ | ⟨a, b, h⟩ <;> rcases h2 with ⟨a', h'⟩ | ⟨a', b', h'⟩ | ⟨a', b', h'⟩ <;> first | exact absurd a a' | exact absurd a' a | omega
set_option maxRecDepth 100000 in
theorem MailForms_calls (W : World) (k f t lo hi : Int) (A : Option Addr) (c : Nat) (ps : List PartD) (cart : Int) (hR : Rd W 2 (.slice A ps.length c) ps.length (ps.flatMap encP)) (hlen : ps.length ≤ 8796093022208) (hB : Bodies W ps) : Calls Try.prog 4 #[.agg #[.int .i64 k, .int .i64 f, .int .i64 t, .int .i64 lo, .int .i64 hi, .slice A ps.length c], .int .i64 cart] W fun e w' => e = .returned (.bool true) ∧ Sat W w' [] := by
  refine enter Try.func4 rfl rfl rfl (.cons (i := 0) rfl (.cons (i := 1) rfl .nil)) ?_
  intro a hA
  have hS := Sat.start W
  refine wp_seq_k fun k1 hk1 => ?_
  refine wp_region_lit ?_
  refine goB hA rfl rfl hS ?_
  clear hA a hS; intro b2 w hS a hA
  refine go1 hA rfl rfl rfl (r_assign (hA.ev rfl)) ?_; clear hA a; intro a hA
  refine wpList_nil ?_
  refine hk1 _ _ ?_
  clear hk1 k1
  replace hA := hA.keep (.cons (i := 1) rfl (.cons (i := 2) rfl (.cons (i := 4) rfl .nil)))
  refine wp_seq_k fun k2 hk2 => ?_
  refine wp_seq_k fun k3 hk3 => ?_
  refine wp_region_lit ?_
  refine goF hA rfl T.en13 rfl (some_calls _) ?_
  clear hA a; rintro e w ⟨A2, A3, rfl, hT⟩; replace hS : Sat _ _ _ := hS.rebase hT; clear hT
  refine ⟨_, rfl, ?_⟩; intro a hA
  refine goF hA rfl T.en16 rfl (CheckSome_calls _ A2 A3 hS.rd) ?_
  clear hA a; rintro e w ⟨rfl, hT⟩; replace hS : Sat _ _ _ := hS.rebase hT; clear hT
  refine ⟨_, rfl, ?_⟩; intro a hA
  refine go1 hA rfl rfl rfl (as_f (r_neq (hA.ev rfl) (hA.ev rfl)) (by omega)) ?_; clear hA a; intro a hA
  refine go1 hA rfl rfl rfl (r_move (hA.ev rfl)) ?_; clear hA a; intro a hA
  refine go1y hA (wanted_yes hA rfl rfl rfl) rfl rfl (r_build hA rfl T.bd24_) ?_; clear hA a; intro a hA
  refine goFy hA (wanted_yes hA rfl rfl rfl) rfl T.en16 rfl (CheckZero_calls _) ?_
  clear hA a; rintro e w ⟨rfl, hT⟩; replace hS : Sat _ _ _ := hS.rebase hT; clear hT; replace hS := hS.drop.drop
  refine ⟨_, rfl, ?_⟩; intro a hA
  refine go1y hA (wanted_yes hA rfl rfl rfl) rfl rfl (as_f (r_neq (hA.ev rfl) (hA.ev rfl)) (by omega)) ?_; clear hA a; intro a hA
  refine go1 hA rfl rfl rfl (r_pick_f (hA.ev rfl) (hA.ev rfl)) ?_; clear hA a; intro a hA
  refine wpList_nil ?_
  refine hk3 _ _ ?_
  clear hk3 k3
  replace hA := hA.keep (.cons (i := 1) rfl (.cons (i := 2) rfl (.cons (i := 4) rfl (.cons (i := 22) rfl .nil))))
  refine wp_cond_false (hA.ev rfl) ?_
  refine wp_skip ?_
  refine hk2 _ _ ?_
  clear hk2 k2
  replace hA := hA.keep (.cons (i := 1) rfl (.cons (i := 2) rfl (.cons (i := 4) rfl .nil)))
  refine wp_seq_k fun k4 hk4 => ?_
  refine wp_region_lit ?_
  refine goF hA rfl T.en13 rfl (some_calls _) ?_
  clear hA a; rintro e w ⟨A2, A3, rfl, hT⟩; replace hS : Sat _ _ _ := hS.rebase hT; clear hT
  refine ⟨_, rfl, ?_⟩; intro a hA
  refine goF hA rfl T.en12 rfl (AckSome_calls _ A2 A3 hS.rd) ?_
  clear hA a; rintro e w ⟨rfl, hT⟩; replace hS : Sat _ _ _ := hS.rebase hT; clear hT; replace hS := hS.drop.drop
  refine ⟨_, rfl, ?_⟩; intro a hA
  refine go1 hA rfl rfl rfl (r_move (hA.ev rfl)) ?_; clear hA a; intro a hA
  refine go1 hA rfl rfl rfl (r_extract (hA.ev rfl) rfl) ?_; clear hA a; intro a hA
  refine go1 hA rfl rfl rfl (r_extract (hA.ev rfl) rfl) ?_; clear hA a; intro a hA
  refine goN hA rfl T.zv24 hS ?_
  clear hA a hS; intro b5 w hS a hA
  first | refine goWS hA (vs := [_, _, _, _, _, _]) rfl rfl T.sz24 (by simp [Value.oneCell']) hS (by simp) ?_ | refine goWS hA (vs := [_, _, _, _, _, _]) rfl rfl T.sz24 (by simp [Value.oneCell']) hS.pull1 (by simp) ?_ | refine goWS hA (vs := [_, _, _, _, _, _]) rfl rfl T.sz24 (by simp [Value.oneCell']) hS.pull2 (by simp) ?_ | refine goWS hA (vs := [_, _, _, _, _, _]) rfl rfl T.sz24 (by simp [Value.oneCell']) hS.pull3 (by simp) ?_ | refine goWS hA (vs := [_, _, _, _, _, _]) rfl rfl T.sz24 (by simp [Value.oneCell']) hS.pull4 (by simp) ?_ | refine goWS hA (vs := [_, _, _, _, _, _]) rfl rfl T.sz24 (by simp [Value.oneCell']) hS.pull5 (by simp) ?_
  clear hS; intro w hS
  refine go1 hA rfl rfl rfl (r_assign (hA.ev rfl)) ?_; clear hA a; intro a hA
  refine wpList_nil ?_
  refine hk4 _ _ ?_
  clear hk4 k4
  replace hA := hA.keep (.cons (i := 1) rfl (.cons (i := 2) rfl (.cons (i := 4) rfl (.cons (i := 5) rfl (.cons (i := 6) rfl .nil)))))
  refine wp_seq_k fun k5 hk5 => ?_
  refine wp_seq_k fun k6 hk6 => ?_
  refine wp_region_lit ?_
  refine go1 hA rfl rfl rfl (r_move (hA.ev rfl)) ?_; clear hA a; intro a hA
  refine go1 hA rfl rfl rfl (as_f (r_neq (hA.ev rfl) (hA.ev rfl)) (by omega)) ?_; clear hA a; intro a hA
  refine go1 hA rfl rfl rfl (r_move (hA.ev rfl)) ?_; clear hA a; intro a hA
  refine go1y hA (wanted_yes hA rfl rfl rfl) rfl rfl (r_field (hA.ev rfl) T.fo24_0) ?_; clear hA a; intro a hA
  refine go1y hA (wanted_yes hA rfl rfl rfl) rfl rfl (r_load (hA.ev rfl) T.fl3 (by first | exact hS.cell rfl | exact hS.pull1.cell rfl | exact hS.pull2.cell rfl | exact hS.pull3.cell rfl | exact hS.pull4.cell rfl | exact hS.pull5.cell rfl)) ?_; clear hA a; intro a hA
  refine go1y hA (wanted_yes hA rfl rfl rfl) rfl rfl (as_f (r_neq (hA.ev rfl) (hA.ev rfl)) (by omega)) ?_; clear hA a; intro a hA
  refine go1 hA rfl rfl rfl (r_pick_f (hA.ev rfl) (hA.ev rfl)) ?_; clear hA a; intro a hA
  refine go1 hA rfl rfl rfl (r_move (hA.ev rfl)) ?_; clear hA a; intro a hA
  refine go1y hA (wanted_yes hA rfl rfl rfl) rfl rfl (r_field (hA.ev rfl) T.fo24_1) ?_; clear hA a; intro a hA
  refine go1y hA (wanted_yes hA rfl rfl rfl) rfl rfl (r_load (hA.ev rfl) T.fl3 (by first | exact hS.cell rfl | exact hS.pull1.cell rfl | exact hS.pull2.cell rfl | exact hS.pull3.cell rfl | exact hS.pull4.cell rfl | exact hS.pull5.cell rfl)) ?_; clear hA a; intro a hA
  refine go1y hA (wanted_yes hA rfl rfl rfl) rfl rfl (as_f (r_neq (hA.ev rfl) (hA.ev rfl)) (by omega)) ?_; clear hA a; intro a hA
  refine go1 hA rfl rfl rfl (r_pick_f (hA.ev rfl) (hA.ev rfl)) ?_; clear hA a; intro a hA
  refine go1 hA rfl rfl rfl (r_move (hA.ev rfl)) ?_; clear hA a; intro a hA
  refine go1y hA (wanted_yes hA rfl rfl rfl) rfl rfl (r_field (hA.ev rfl) T.fo24_2) ?_; clear hA a; intro a hA
  refine go1y hA (wanted_yes hA rfl rfl rfl) rfl rfl (r_load (hA.ev rfl) T.fl3 (by first | exact hS.cell rfl | exact hS.pull1.cell rfl | exact hS.pull2.cell rfl | exact hS.pull3.cell rfl | exact hS.pull4.cell rfl | exact hS.pull5.cell rfl)) ?_; clear hA a; intro a hA
  refine go1y hA (wanted_yes hA rfl rfl rfl) rfl rfl (as_f (r_neq (hA.ev rfl) (hA.ev rfl)) (by omega)) ?_; clear hA a; intro a hA
  refine go1 hA rfl rfl rfl (r_pick_f (hA.ev rfl) (hA.ev rfl)) ?_; clear hA a; intro a hA
  refine go1 hA rfl rfl rfl (r_move (hA.ev rfl)) ?_; clear hA a; intro a hA
  refine go1y hA (wanted_yes hA rfl rfl rfl) rfl rfl (r_field (hA.ev rfl) T.fo24_4) ?_; clear hA a; intro a hA
  refine go1y hA (wanted_yes hA rfl rfl rfl) rfl rfl (r_load (hA.ev rfl) T.fl3 (by first | exact hS.cell rfl | exact hS.pull1.cell rfl | exact hS.pull2.cell rfl | exact hS.pull3.cell rfl | exact hS.pull4.cell rfl | exact hS.pull5.cell rfl)) ?_; clear hA a; intro a hA
  refine go1y hA (wanted_yes hA rfl rfl rfl) rfl rfl (as_f (r_neq (hA.ev rfl) (hA.ev rfl)) (by omega)) ?_; clear hA a; intro a hA
  refine go1 hA rfl rfl rfl (r_pick_f (hA.ev rfl) (hA.ev rfl)) ?_; clear hA a; intro a hA
  refine wpList_nil ?_
  refine hk6 _ _ ?_
  clear hk6 k6
  replace hA := hA.keep (.cons (i := 1) rfl (.cons (i := 2) rfl (.cons (i := 4) rfl (.cons (i := 5) rfl (.cons (i := 6) rfl (.cons (i := 49) rfl .nil))))))
  refine wp_cond_false (hA.ev rfl) ?_
  refine wp_skip ?_
  refine hk5 _ _ ?_
  clear hk5 k5
  replace hA := hA.keep (.cons (i := 1) rfl (.cons (i := 2) rfl (.cons (i := 4) rfl (.cons (i := 5) rfl (.cons (i := 6) rfl .nil)))))
  refine wp_seq_k fun k7 hk7 => ?_
  refine wp_region_lit ?_
  refine go1 hA rfl rfl rfl (r_loadS (cs := [_, _, _, _, _, _]) (hA.ev rfl) T.ag24 T.sz24 (by first | exact hS.cellsAt (xs := [_, _, _, _, _, _]) rfl | exact hS.pull1.cellsAt (xs := [_, _, _, _, _, _]) rfl | exact hS.pull2.cellsAt (xs := [_, _, _, _, _, _]) rfl | exact hS.pull3.cellsAt (xs := [_, _, _, _, _, _]) rfl | exact hS.pull4.cellsAt (xs := [_, _, _, _, _, _]) rfl | exact hS.pull5.cellsAt (xs := [_, _, _, _, _, _]) rfl)) ?_; clear hA a; intro a hA
  refine goF hA rfl T.en14 rfl (RefCheck_calls _ k f t lo hi A c ps (hR.sat hS) (by omega)) ?_
  clear hA a; rintro e w ⟨er2, rfl, hc, hT⟩; replace hS : Sat _ _ _ := hS.rebase hT; clear hT
  refine ⟨_, rfl, ?_⟩; intro a hA
  refine go1 hA rfl rfl rfl (r_assign (hA.ev rfl)) ?_; clear hA a; intro a hA
  refine wpList_nil ?_
  refine hk7 _ _ ?_
  clear hk7 k7
  replace hA := hA.keep (.cons (i := 1) rfl (.cons (i := 2) rfl (.cons (i := 4) rfl (.cons (i := 5) rfl (.cons (i := 6) rfl (.cons (i := 7) rfl .nil))))))
  refine wp_seq_k fun k8 hk8 => ?_
  refine wp_region_lit ?_
  refine go1 hA rfl rfl rfl (r_loadS (cs := [_, _, _, _, _, _]) (hA.ev rfl) T.ag24 T.sz24 (by first | exact hS.cellsAt (xs := [_, _, _, _, _, _]) rfl | exact hS.pull1.cellsAt (xs := [_, _, _, _, _, _]) rfl | exact hS.pull2.cellsAt (xs := [_, _, _, _, _, _]) rfl | exact hS.pull3.cellsAt (xs := [_, _, _, _, _, _]) rfl | exact hS.pull4.cellsAt (xs := [_, _, _, _, _, _]) rfl | exact hS.pull5.cellsAt (xs := [_, _, _, _, _, _]) rfl)) ?_; clear hA a; intro a hA
  refine goF hA rfl T.en17 rfl (RefAcks_calls _ k f t lo hi A c ps (hR.sat hS) (by omega)) ?_
  clear hA a; rintro e w ⟨k2, f2, t2, hi2, er3, rfl, hqr, hT⟩; replace hS : Sat _ _ _ := hS.rebase hT; clear hT
  refine ⟨_, rfl, ?_⟩; intro a hA
  refine go1 hA rfl rfl rfl (r_move (hA.ev rfl)) ?_; clear hA a; intro a hA
  refine go1 hA rfl rfl rfl (r_extract (hA.ev rfl) rfl) ?_; clear hA a; intro a hA
  refine go1 hA rfl rfl rfl (r_extract (hA.ev rfl) rfl) ?_; clear hA a; intro a hA
  refine goN hA rfl T.zv24 hS ?_
  clear hA a hS; intro b8 w hS a hA
  first | refine goWS hA (vs := [_, _, _, _, _, _]) rfl rfl T.sz24 (by simp [Value.oneCell']) hS (by simp) ?_ | refine goWS hA (vs := [_, _, _, _, _, _]) rfl rfl T.sz24 (by simp [Value.oneCell']) hS.pull1 (by simp) ?_ | refine goWS hA (vs := [_, _, _, _, _, _]) rfl rfl T.sz24 (by simp [Value.oneCell']) hS.pull2 (by simp) ?_ | refine goWS hA (vs := [_, _, _, _, _, _]) rfl rfl T.sz24 (by simp [Value.oneCell']) hS.pull3 (by simp) ?_ | refine goWS hA (vs := [_, _, _, _, _, _]) rfl rfl T.sz24 (by simp [Value.oneCell']) hS.pull4 (by simp) ?_ | refine goWS hA (vs := [_, _, _, _, _, _]) rfl rfl T.sz24 (by simp [Value.oneCell']) hS.pull5 (by simp) ?_
  clear hS; intro w hS
  refine go1 hA rfl rfl rfl (r_assign (hA.ev rfl)) ?_; clear hA a; intro a hA
  refine wpList_nil ?_
  refine hk8 _ _ ?_
  clear hk8 k8
  replace hA := hA.keep (.cons (i := 1) rfl (.cons (i := 2) rfl (.cons (i := 4) rfl (.cons (i := 5) rfl (.cons (i := 6) rfl (.cons (i := 7) rfl (.cons (i := 8) rfl (.cons (i := 9) rfl .nil))))))))
  refine wp_seq_k fun k9 hk9 => ?_
  refine wp_region_lit ?_
  refine go1 hA rfl rfl rfl (r_loadS (cs := [_, _, _, _, _, _]) (hA.ev rfl) T.ag24 T.sz24 (by first | exact hS.cellsAt (xs := [_, _, _, _, _, _]) rfl | exact hS.pull1.cellsAt (xs := [_, _, _, _, _, _]) rfl | exact hS.pull2.cellsAt (xs := [_, _, _, _, _, _]) rfl | exact hS.pull3.cellsAt (xs := [_, _, _, _, _, _]) rfl | exact hS.pull4.cellsAt (xs := [_, _, _, _, _, _]) rfl | exact hS.pull5.cellsAt (xs := [_, _, _, _, _, _]) rfl)) ?_; clear hA a; intro a hA
  refine goF hA rfl T.en18 rfl (RefCarts_calls _ k f t lo hi A c ps (hR.sat hS) hlen) ?_
  clear hA a; rintro e w ⟨A4, c4, rfl, hT⟩; replace hS : Sat _ _ _ := hS.rebase hT; clear hT; have hr4 := hS.rd
  refine ⟨_, rfl, ?_⟩; intro a hA
  refine go1 hA rfl rfl rfl (r_assign (hA.ev rfl)) ?_; clear hA a; intro a hA
  refine wpList_nil ?_
  refine hk9 _ _ ?_
  clear hk9 k9
  replace hA := hA.keep (.cons (i := 1) rfl (.cons (i := 2) rfl (.cons (i := 4) rfl (.cons (i := 5) rfl (.cons (i := 6) rfl (.cons (i := 7) rfl (.cons (i := 8) rfl (.cons (i := 9) rfl (.cons (i := 10) rfl .nil)))))))))
  refine wp_seq_k fun k10 hk10 => ?_
  refine wp_region_lit ?_
  refine go1 hA rfl rfl rfl (r_loadS (cs := [_, _, _, _, _, _]) (hA.ev rfl) T.ag24 T.sz24 (by first | exact hS.cellsAt (xs := [_, _, _, _, _, _]) rfl | exact hS.pull1.cellsAt (xs := [_, _, _, _, _, _]) rfl | exact hS.pull2.cellsAt (xs := [_, _, _, _, _, _]) rfl | exact hS.pull3.cellsAt (xs := [_, _, _, _, _, _]) rfl | exact hS.pull4.cellsAt (xs := [_, _, _, _, _, _]) rfl | exact hS.pull5.cellsAt (xs := [_, _, _, _, _, _]) rfl)) ?_; clear hA a; intro a hA
  refine go1 hA rfl rfl rfl (r_move (hA.ev rfl)) ?_; clear hA a; intro a hA
  refine goF hA rfl T.en19 rfl (RefBody_calls _ k f t lo hi A c ps cart (hR.sat hS) (by omega) (hB.sat hS)) ?_
  clear hA a; rintro e w ⟨A5, c5, ys, found, rfl, hfd, hT⟩; replace hS : Sat _ _ _ := hS.rebase hT; clear hT
  refine ⟨_, rfl, ?_⟩; intro a hA
  refine go1 hA rfl rfl rfl (r_move (hA.ev rfl)) ?_; clear hA a; intro a hA
  refine go1 hA rfl rfl rfl (r_extract (hA.ev rfl) rfl) ?_; clear hA a; intro a hA
  refine go1 hA rfl rfl rfl (r_extract (hA.ev rfl) rfl) ?_; clear hA a; intro a hA
  refine go1 hA rfl rfl rfl (r_assign (hA.ev rfl)) ?_; clear hA a; intro a hA
  refine go1 hA rfl rfl rfl (r_assign (hA.ev rfl)) ?_; clear hA a; intro a hA
  refine wpList_nil ?_
  refine hk10 _ _ ?_
  clear hk10 k10
  replace hA := hA.keep (.cons (i := 1) rfl (.cons (i := 2) rfl (.cons (i := 4) rfl (.cons (i := 5) rfl (.cons (i := 6) rfl (.cons (i := 7) rfl (.cons (i := 8) rfl (.cons (i := 9) rfl (.cons (i := 10) rfl (.cons (i := 11) rfl (.cons (i := 12) rfl .nil)))))))))))
  refine wp_seq_k fun k11 hk11 => ?_
  refine wp_seq_k fun k12 hk12 => ?_
  refine wp_region_lit ?_
  refine go1 hA rfl rfl rfl (r_loadS (cs := [_, _, _, _, _, _]) (hA.ev rfl) T.ag24 T.sz24 (by first | exact hS.cellsAt (xs := [_, _, _, _, _, _]) rfl | exact hS.pull1.cellsAt (xs := [_, _, _, _, _, _]) rfl | exact hS.pull2.cellsAt (xs := [_, _, _, _, _, _]) rfl | exact hS.pull3.cellsAt (xs := [_, _, _, _, _, _]) rfl | exact hS.pull4.cellsAt (xs := [_, _, _, _, _, _]) rfl | exact hS.pull5.cellsAt (xs := [_, _, _, _, _, _]) rfl)) ?_; clear hA a; intro a hA
  refine goF hA rfl T.en16 rfl (Check_calls _ k f t lo hi A c ps (hR.sat hS) (by omega)) ?_
  clear hA a; rintro e w ⟨er1, rfl, hc1, hT⟩; replace hS : Sat _ _ _ := hS.rebase hT; clear hT; have he12 : er1 = er2 := by
    rcases hc with ⟨h, hF⟩ | ⟨h, hF⟩ <;> rcases hc1 with ⟨h1, hF1⟩ | ⟨h1, hF1⟩ <;> first | omega | exact absurd hF hF1 | exact absurd hF1 hF
  refine ⟨_, rfl, ?_⟩; intro a hA
  refine go1 hA rfl rfl rfl (r_move (hA.ev rfl)) ?_; clear hA a; intro a hA
  refine go1 hA rfl rfl rfl (as_f (r_neq (hA.ev rfl) (hA.ev rfl)) (by omega)) ?_; clear hA a; intro a hA
  refine wpList_nil ?_
  refine hk12 _ _ ?_
  clear hk12 k12
  replace hA := hA.keep (.cons (i := 1) rfl (.cons (i := 2) rfl (.cons (i := 4) rfl (.cons (i := 5) rfl (.cons (i := 6) rfl (.cons (i := 8) rfl (.cons (i := 9) rfl (.cons (i := 10) rfl (.cons (i := 11) rfl (.cons (i := 12) rfl (.cons (i := 68) rfl .nil)))))))))))
  refine wp_cond_false (hA.ev rfl) ?_
  refine wp_skip ?_
  refine hk11 _ _ ?_
  clear hk11 k11
  replace hA := hA.keep (.cons (i := 1) rfl (.cons (i := 2) rfl (.cons (i := 4) rfl (.cons (i := 5) rfl (.cons (i := 6) rfl (.cons (i := 8) rfl (.cons (i := 9) rfl (.cons (i := 10) rfl (.cons (i := 11) rfl (.cons (i := 12) rfl .nil))))))))))
  refine wp_seq_k fun k13 hk13 => ?_
  refine wp_region_lit ?_
  refine go1 hA rfl rfl rfl (r_loadS (cs := [_, _, _, _, _, _]) (hA.ev rfl) T.ag24 T.sz24 (by first | exact hS.cellsAt (xs := [_, _, _, _, _, _]) rfl | exact hS.pull1.cellsAt (xs := [_, _, _, _, _, _]) rfl | exact hS.pull2.cellsAt (xs := [_, _, _, _, _, _]) rfl | exact hS.pull3.cellsAt (xs := [_, _, _, _, _, _]) rfl | exact hS.pull4.cellsAt (xs := [_, _, _, _, _, _]) rfl | exact hS.pull5.cellsAt (xs := [_, _, _, _, _, _]) rfl)) ?_; clear hA a; intro a hA
  refine goF hA rfl T.en12 rfl (Ack_calls _ k f t lo hi A c ps (hR.sat hS) (by omega)) ?_
  clear hA a; rintro e w ⟨k', f', t', hi', er, rfl, hq, hT⟩; replace hS : Sat _ _ _ := hS.rebase hT; clear hT; obtain ⟨rfl, rfl, rfl, rfl, rfl⟩ := ack_same hq hqr
  refine ⟨_, rfl, ?_⟩; intro a hA
  refine go1 hA rfl rfl rfl (r_move (hA.ev rfl)) ?_; clear hA a; intro a hA
  refine go1 hA rfl rfl rfl (r_extract (hA.ev rfl) rfl) ?_; clear hA a; intro a hA
  refine go1 hA rfl rfl rfl (r_extract (hA.ev rfl) rfl) ?_; clear hA a; intro a hA
  first | refine goWS hA (vs := [_, _, _, _, _, _]) rfl rfl T.sz24 (by simp [Value.oneCell']) hS (by simp) ?_ | refine goWS hA (vs := [_, _, _, _, _, _]) rfl rfl T.sz24 (by simp [Value.oneCell']) hS.pull1 (by simp) ?_ | refine goWS hA (vs := [_, _, _, _, _, _]) rfl rfl T.sz24 (by simp [Value.oneCell']) hS.pull2 (by simp) ?_ | refine goWS hA (vs := [_, _, _, _, _, _]) rfl rfl T.sz24 (by simp [Value.oneCell']) hS.pull3 (by simp) ?_ | refine goWS hA (vs := [_, _, _, _, _, _]) rfl rfl T.sz24 (by simp [Value.oneCell']) hS.pull4 (by simp) ?_ | refine goWS hA (vs := [_, _, _, _, _, _]) rfl rfl T.sz24 (by simp [Value.oneCell']) hS.pull5 (by simp) ?_
  clear hS; intro w hS
  refine go1 hA rfl rfl rfl (r_assign (hA.ev rfl)) ?_; clear hA a; intro a hA
  refine wpList_nil ?_
  refine hk13 _ _ ?_
  clear hk13 k13
  replace hA := hA.keep (.cons (i := 1) rfl (.cons (i := 2) rfl (.cons (i := 4) rfl (.cons (i := 5) rfl (.cons (i := 6) rfl (.cons (i := 8) rfl (.cons (i := 9) rfl (.cons (i := 10) rfl (.cons (i := 11) rfl (.cons (i := 12) rfl .nil))))))))))
  refine wp_seq_k fun k14 hk14 => ?_
  refine wp_seq_k fun k15 hk15 => ?_
  refine wp_region_lit ?_
  refine go1 hA rfl rfl rfl (r_move (hA.ev rfl)) ?_; clear hA a; intro a hA
  refine go1 hA rfl rfl rfl (r_move (hA.ev rfl)) ?_; clear hA a; intro a hA
  refine go1 hA rfl rfl rfl (as_f (r_neq (hA.ev rfl) (hA.ev rfl)) (by omega)) ?_; clear hA a; intro a hA
  refine go1 hA rfl rfl rfl (r_move (hA.ev rfl)) ?_; clear hA a; intro a hA
  refine go1y hA (wanted_yes hA rfl rfl rfl) rfl rfl (r_loadS (cs := [_, _, _, _, _, _]) (hA.ev rfl) T.ag24 T.sz24 (by first | exact hS.cellsAt (xs := [_, _, _, _, _, _]) rfl | exact hS.pull1.cellsAt (xs := [_, _, _, _, _, _]) rfl | exact hS.pull2.cellsAt (xs := [_, _, _, _, _, _]) rfl | exact hS.pull3.cellsAt (xs := [_, _, _, _, _, _]) rfl | exact hS.pull4.cellsAt (xs := [_, _, _, _, _, _]) rfl | exact hS.pull5.cellsAt (xs := [_, _, _, _, _, _]) rfl)) ?_; clear hA a; intro a hA
  refine go1y hA (wanted_yes hA rfl rfl rfl) rfl rfl (r_loadS (cs := [_, _, _, _, _, _]) (hA.ev rfl) T.ag24 T.sz24 (by first | exact hS.cellsAt (xs := [_, _, _, _, _, _]) rfl | exact hS.pull1.cellsAt (xs := [_, _, _, _, _, _]) rfl | exact hS.pull2.cellsAt (xs := [_, _, _, _, _, _]) rfl | exact hS.pull3.cellsAt (xs := [_, _, _, _, _, _]) rfl | exact hS.pull4.cellsAt (xs := [_, _, _, _, _, _]) rfl | exact hS.pull5.cellsAt (xs := [_, _, _, _, _, _]) rfl)) ?_; clear hA a; intro a hA
  refine goFy hA (wanted_yes hA rfl rfl rfl) rfl T.en15 rfl (EqualSame_calls _ _ _ _ _) ?_
  clear hA a; rintro e w ⟨rfl, hT⟩; replace hS : Sat _ _ _ := hS.rebase hT; clear hT
  refine ⟨_, rfl, ?_⟩; intro a hA
  refine go1y hA (wanted_yes hA rfl rfl rfl) rfl rfl (r_not (hA.ev rfl)) ?_; clear hA a; intro a hA
  refine go1 hA rfl rfl rfl (r_pick_f (hA.ev rfl) (hA.ev rfl)) ?_; clear hA a; intro a hA
  refine wpList_nil ?_
  refine hk15 _ _ ?_
  clear hk15 k15
  replace hA := hA.keep (.cons (i := 1) rfl (.cons (i := 2) rfl (.cons (i := 4) rfl (.cons (i := 10) rfl (.cons (i := 11) rfl (.cons (i := 12) rfl (.cons (i := 82) rfl .nil)))))))
  refine wp_cond_false (hA.ev rfl) ?_
  refine wp_skip ?_
  refine hk14 _ _ ?_
  clear hk14 k14
  replace hA := hA.keep (.cons (i := 1) rfl (.cons (i := 2) rfl (.cons (i := 4) rfl (.cons (i := 10) rfl (.cons (i := 11) rfl (.cons (i := 12) rfl .nil))))))
  refine wp_seq_k fun k16 hk16 => ?_
  refine wp_seq_k fun k17 hk17 => ?_
  refine wp_region_lit ?_
  refine go1 hA rfl rfl rfl (r_loadS (cs := [_, _, _, _, _, _]) (hA.ev rfl) T.ag24 T.sz24 (by first | exact hS.cellsAt (xs := [_, _, _, _, _, _]) rfl | exact hS.pull1.cellsAt (xs := [_, _, _, _, _, _]) rfl | exact hS.pull2.cellsAt (xs := [_, _, _, _, _, _]) rfl | exact hS.pull3.cellsAt (xs := [_, _, _, _, _, _]) rfl | exact hS.pull4.cellsAt (xs := [_, _, _, _, _, _]) rfl | exact hS.pull5.cellsAt (xs := [_, _, _, _, _, _]) rfl)) ?_; clear hA a; intro a hA
  refine goF hA rfl T.en21 rfl (Carts_calls _ k f t lo hi A c ps (hR.sat hS) hlen) ?_
  clear hA a; rintro e w ⟨A6, c6, rfl, hT⟩; replace hS : Sat _ _ _ := hS.rebase hT; clear hT
  refine ⟨_, rfl, ?_⟩; intro a hA
  refine go1 hA rfl rfl rfl (r_move (hA.ev rfl)) ?_; clear hA a; intro a hA
  refine goF hA rfl T.en20 rfl (EqualCarts_calls _ ps A6 A4 c6 c4 hS.rd hS.pull3.rd (by omega)) ?_
  clear hA a; rintro e w ⟨rfl, hT⟩; replace hS : Sat _ _ _ := hS.rebase hT; clear hT; replace hS := hS.drop
  refine ⟨_, rfl, ?_⟩; intro a hA
  refine go1 hA rfl rfl rfl (r_not (hA.ev rfl)) ?_; clear hA a; intro a hA
  refine wpList_nil ?_
  refine hk17 _ _ ?_
  clear hk17 k17
  replace hA := hA.keep (.cons (i := 1) rfl (.cons (i := 2) rfl (.cons (i := 4) rfl (.cons (i := 11) rfl (.cons (i := 12) rfl (.cons (i := 87) rfl .nil))))))
  refine wp_cond_false (hA.ev rfl) ?_
  refine wp_skip ?_
  refine hk16 _ _ ?_
  clear hk16 k16
  replace hA := hA.keep (.cons (i := 1) rfl (.cons (i := 2) rfl (.cons (i := 4) rfl (.cons (i := 11) rfl (.cons (i := 12) rfl .nil)))))
  refine wp_seq_k fun k18 hk18 => ?_
  refine wp_region_lit ?_
  refine go1 hA rfl rfl rfl (r_loadS (cs := [_, _, _, _, _, _]) (hA.ev rfl) T.ag24 T.sz24 (by first | exact hS.cellsAt (xs := [_, _, _, _, _, _]) rfl | exact hS.pull1.cellsAt (xs := [_, _, _, _, _, _]) rfl | exact hS.pull2.cellsAt (xs := [_, _, _, _, _, _]) rfl | exact hS.pull3.cellsAt (xs := [_, _, _, _, _, _]) rfl | exact hS.pull4.cellsAt (xs := [_, _, _, _, _, _]) rfl | exact hS.pull5.cellsAt (xs := [_, _, _, _, _, _]) rfl)) ?_; clear hA a; intro a hA
  refine go1 hA rfl rfl rfl (r_move (hA.ev rfl)) ?_; clear hA a; intro a hA
  refine goF hA rfl T.en22 rfl (Body_calls _ k f t lo hi A c ps cart (hR.sat hS) (by omega) (hB.sat hS)) ?_
  clear hA a; rintro e w ⟨A7, c7, zs, found2, rfl, hfd2, hT⟩; replace hS : Sat _ _ _ := hS.rebase hT; clear hT; obtain ⟨rfl, rfl⟩ := Found.one hfd2 hfd; have hyl := Found.len hB hfd
  refine ⟨_, rfl, ?_⟩; intro a hA
  refine go1 hA rfl rfl rfl (r_move (hA.ev rfl)) ?_; clear hA a; intro a hA
  refine go1 hA rfl rfl rfl (r_extract (hA.ev rfl) rfl) ?_; clear hA a; intro a hA
  refine go1 hA rfl rfl rfl (r_extract (hA.ev rfl) rfl) ?_; clear hA a; intro a hA
  refine go1 hA rfl rfl rfl (r_assign (hA.ev rfl)) ?_; clear hA a; intro a hA
  refine go1 hA rfl rfl rfl (r_assign (hA.ev rfl)) ?_; clear hA a; intro a hA
  refine wpList_nil ?_
  refine hk18 _ _ ?_
  clear hk18 k18
  replace hA := hA.keep (.cons (i := 4) rfl (.cons (i := 11) rfl (.cons (i := 12) rfl (.cons (i := 13) rfl (.cons (i := 14) rfl .nil)))))
  refine wp_seq_k fun k19 hk19 => ?_
  refine wp_region_lit ?_
  refine go1 hA rfl rfl rfl (r_move (hA.ev rfl)) ?_; clear hA a; intro a hA
  refine go1 hA rfl rfl rfl (r_move (hA.ev rfl)) ?_; clear hA a; intro a hA
  refine go1 hA rfl rfl rfl (show _ = Result.ok (Next.value (.bool true)) w from (r_eqb (hA.ev rfl) (hA.ev rfl) T.un4).trans (by simp)) ?_; clear hA a; intro a hA
  refine go1 hA rfl rfl rfl (r_move (hA.ev rfl)) ?_; clear hA a; intro a hA
  refine go1y hA (wanted_yes hA rfl rfl rfl) rfl rfl (r_move (hA.ev rfl)) ?_; clear hA a; intro a hA
  refine go1y hA (wanted_yes hA rfl rfl rfl) rfl rfl (r_move (hA.ev rfl)) ?_; clear hA a; intro a hA
  refine goFy hA (wanted_yes hA rfl rfl rfl) rfl T.en23 rfl (EqualSelf_calls _ _ A7 A5 c7 c5 hS.rd hS.pull2.rd hyl) ?_
  clear hA a; rintro e w ⟨rfl, hT⟩; replace hS : Sat _ _ _ := hS.rebase hT; clear hT
  refine ⟨_, rfl, ?_⟩; intro a hA
  refine go1 hA rfl rfl rfl (r_pick_t (hA.ev rfl) (hA.ev rfl)) ?_; clear hA a; intro a hA
  refine go1 hA rfl rfl rfl (r_assign (hA.ev rfl)) ?_; clear hA a; intro a hA
  refine wpList_nil ?_
  refine hk19 _ _ ?_
  clear hk19 k19
  replace hA := hA.keep (.cons (i := 4) rfl .nil)
  refine wp_ret ?_
  refine end1 hA rfl rfl ?_
  exact ⟨rfl, hS.nil⟩
end Go.Proofs.Ytfbdcllbgfohdaa.Wk
