/- The walks of barrowref18.Acks, Body, bytes.Clone and mail.Body. Conditions: the mail is read as data. -/
import Derived.Test.YtfbdcllbgfohdaaT
import Derived.Test.YtfbdcllbgfohdaaWkMail2
set_option linter.unusedVariables false
set_option linter.unusedSimpArgs false
namespace Go.Proofs.Ytfbdcllbgfohdaa.Wm
open Go Go.RowKit Go.Proofs.Ytfbdcllbgfohdaa Go.Proofs.Ytfbdcllbgfohdaa.K
def Found (ps : List PartD) (cart : Int) (found : Bool) (ys : List Int) : Prop :=
  (found = true ∧ ∃ (i : Nat) (p : PartD), ps[i]? = some p ∧ p.cart = cart ∧ (∀ j q, j < i → ps[j]? = some q → q.cart ≠ cart) ∧ ys = p.b) ∨ (found = false ∧ ys = [] ∧ ∀ (j : Nat) (q : PartD), ps[j]? = some q → q.cart ≠ cart)
theorem Found.one {ps : List PartD} {cart : Int} {f1 f2 : Bool} {y1 y2 : List Int} (h1 : Found ps cart f1 y1) (h2 : Found ps cart f2 y2) : f1 = f2 ∧ y1 = y2 := by
  rcases h1 with ⟨rfl, i, p, hp, hc, hn, rfl⟩ | ⟨rfl, rfl, hn⟩ <;> rcases h2 with ⟨rfl, j, q, hq, hd, hm, rfl⟩ | ⟨rfl, rfl, hm⟩
  · rcases Nat.lt_trichotomy i j with h | h | h
    · exact absurd hc (hm i p h hp)
    · subst h; rw [hp] at hq; cases hq; exact ⟨rfl, rfl⟩
    · exact absurd hd (hn j q h hq)
  · exact absurd hc (hm i p hp)
  · exact absurd hd (hn j q hq)
  · exact ⟨rfl, rfl⟩
theorem bytes_one (xs : List Int) : ∀ u ∈ xs.map (Value.int .u8), u.oneCell' = true := fun u hu => by
  obtain ⟨x, _, rfl⟩ := List.mem_map.1 hu; rfl
set_option maxRecDepth 100000 in
theorem RefAcks_calls (W : World) (k f t lo hi : Int) (A : Option Addr) (c : Nat) (ps : List PartD) (hR : Rd W 2 (.slice A ps.length c) ps.length (ps.flatMap encP)) (hlen : ps.length ≤ 140737488355328) : Calls Try.prog 17 #[.agg #[.int .i64 k, .int .i64 f, .int .i64 t, .int .i64 lo, .int .i64 hi, .slice A ps.length c]] W fun e w' => ∃ k' f' t' hi' er, e = .returned (.tuple #[.agg #[.int .i64 k', .int .i64 f', .int .i64 t', .int .i64 0, .int .i64 hi', .slice none 0 0], .int .i64 er]) ∧ ((¬ Form k f t lo hi ps ∧ er = 1 ∧ k' = 0 ∧ f' = 0 ∧ t' = 0 ∧ hi' = 0) ∨ (Form k f t lo hi ps ∧ ¬ (k = 1 ∨ k = 2) ∧ er = 7 ∧ k' = 0 ∧ f' = 0 ∧ t' = 0 ∧ hi' = 0) ∨ (Form k f t lo hi ps ∧ (k = 1 ∨ k = 2) ∧ er = 0 ∧ k' = 3 ∧ f' = t ∧ t' = f ∧ hi' = hi)) ∧ Sat W w' [] := by
  refine enter Try.func17 rfl rfl rfl (.cons (i := 0) rfl .nil) ?_
  intro a hA
  have hS := Sat.start W
  refine wp_seq_k fun k1 hk1 => ?_
  refine wp_region_lit ?_
  refine goB hA rfl rfl hS ?_
  clear hA a hS; intro b1 w hS a hA
  refine goN hA rfl T.zv24 hS ?_
  clear hA a hS; intro b2 w hS a hA
  refine go1 hA rfl rfl rfl (r_assign (hA.ev rfl)) ?_; clear hA a; intro a hA
  refine wpList_nil ?_
  refine hk1 _ _ ?_
  clear hk1 k1
  replace hA := hA.keep (.cons (i := 1) rfl (.cons (i := 2) rfl (.cons (i := 3) rfl .nil)))
  refine wp_seq_k fun k2 hk2 => ?_
  refine wp_seq_k fun k3 hk3 => ?_
  refine wp_region_lit ?_
  refine go1 hA rfl rfl rfl (r_loadS (cs := [_, _, _, _, _, _]) (hA.ev rfl) T.ag24 T.sz24 (by first | exact hS.cellsAt (xs := [_, _, _, _, _, _]) rfl | exact (hS.p 1).cellsAt (xs := [_, _, _, _, _, _]) rfl | exact (hS.p 2).cellsAt (xs := [_, _, _, _, _, _]) rfl)) ?_; clear hA a; intro a hA
  refine goF hA rfl T.en14 rfl (RefCheck_calls w k f t lo hi A c ps (hR.sat hS) hlen) ?_
  clear hA a; rintro e w ⟨er, rfl, hc, hT⟩; replace hS : Sat _ _ _ := hS.rebase hT; clear hT
  refine ⟨_, rfl, ?_⟩; intro a hA
  refine go1s hA rfl rfl rfl (r_neq (hA.ev rfl) (hA.ev rfl)) ?_ ?_
  · clear hA a; intro h6 a hA
    have hF : ¬ Form k f t lo hi ps := by
      rcases hc with ⟨h, _⟩ | ⟨_, h⟩
      · omega
      · exact h
    refine wpList_nil ?_
    refine hk3 _ _ ?_
    clear hk3 k3
    replace hA := hA.keep (.cons (i := 1) rfl (.cons (i := 2) rfl (.cons (i := 3) rfl (.cons (i := 6) rfl .nil))))
    refine wp_cond_true (hA.ev rfl) ?_
    refine wp_seq_k fun k4 hk4 => ?_
    refine wp_region_lit ?_
    refine go1 hA rfl rfl rfl (r_build hA rfl T.bd24_) ?_; clear hA a; intro a hA
    first | refine goWS2 (vs := [_, _, _, _, _, _]) (cs' := [_, _, _, _, _, _]) hA rfl rfl T.sz24 (by simp [Value.oneCell']) hS rfl rfl ?_ | refine goWS2 (vs := [_, _, _, _, _, _]) (cs' := [_, _, _, _, _, _]) hA rfl rfl T.sz24 (by simp [Value.oneCell']) (hS.p 1) rfl rfl ?_ | refine goWS2 (vs := [_, _, _, _, _, _]) (cs' := [_, _, _, _, _, _]) hA rfl rfl T.sz24 (by simp [Value.oneCell']) (hS.p 2) rfl rfl ?_
    clear hS; intro w hS
    refine go1 hA rfl rfl rfl (r_assign (hA.ev rfl)) ?_; clear hA a; intro a hA
    refine wpList_nil ?_
    refine hk4 _ _ ?_
    clear hk4 k4
    replace hA := hA.keep (.cons (i := 1) rfl (.cons (i := 2) rfl (.cons (i := 3) rfl .nil)))
    refine wp_ret ?_
    refine then_ret ?_; clear hk2 k2
    refine endR2 hA rfl (resS (cs := [_, _, _, _, _, _]) hA rfl T.ag24 T.sz24 (by first | exact hS.cellsAt (xs := [_, _, _, _, _, _]) rfl | exact (hS.p 1).cellsAt (xs := [_, _, _, _, _, _]) rfl | exact (hS.p 2).cellsAt (xs := [_, _, _, _, _, _]) rfl)) (resT hA rfl) ?_
    exact ⟨_, _, _, _, _, rfl, .inl ⟨hF, rfl, rfl, rfl, rfl, rfl⟩, hS.nil⟩
  · clear hA a; intro h6 a hA
    have hF : Form k f t lo hi ps := by
      rcases hc with ⟨_, h⟩ | ⟨h, _⟩
      · exact h
      · omega
    refine wpList_nil ?_
    refine hk3 _ _ ?_
    clear hk3 k3
    replace hA := hA.keep (.cons (i := 1) rfl (.cons (i := 2) rfl (.cons (i := 3) rfl (.cons (i := 6) rfl .nil))))
    refine wp_cond_false (hA.ev rfl) ?_
    refine wp_skip ?_
    refine hk2 _ _ ?_
    clear hk2 k2
    replace hA := hA.keep (.cons (i := 1) rfl (.cons (i := 2) rfl (.cons (i := 3) rfl .nil)))
    refine wp_seq_k fun k5 hk5 => ?_
    refine wp_seq_k fun k6 hk6 => ?_
    refine wp_region_lit ?_
    refine go1 hA rfl rfl rfl (r_field (hA.ev rfl) T.fo24_0) ?_; clear hA a; intro a hA
    refine go1 hA rfl rfl rfl (r_load (hA.ev rfl) T.fl3 (by first | exact hS.cell rfl | exact (hS.p 1).cell rfl | exact (hS.p 2).cell rfl)) ?_; clear hA a; intro a hA
    refine go1s hA rfl rfl rfl (r_neq (hA.ev rfl) (hA.ev rfl)) ?_ ?_
    · clear hA a; intro h10 a hA
      refine go1 hA rfl rfl rfl (r_move (hA.ev rfl)) ?_; clear hA a; intro a hA
      refine go1y hA (wanted_yes hA rfl rfl rfl) rfl rfl (r_field (hA.ev rfl) T.fo24_0) ?_; clear hA a; intro a hA
      refine go1y hA (wanted_yes hA rfl rfl rfl) rfl rfl (r_load (hA.ev rfl) T.fl3 (by first | exact hS.cell rfl | exact (hS.p 1).cell rfl | exact (hS.p 2).cell rfl)) ?_; clear hA a; intro a hA
      refine go1sy hA (wanted_yes hA rfl rfl rfl) rfl rfl (r_neq (hA.ev rfl) (hA.ev rfl)) ?_ ?_
      · clear hA a; intro h14 a hA
        refine go1 hA rfl rfl rfl (r_pick_t (hA.ev rfl) (hA.ev rfl)) ?_; clear hA a; intro a hA
        refine wpList_nil ?_
        refine hk6 _ _ ?_
        clear hk6 k6
        replace hA := hA.keep (.cons (i := 1) rfl (.cons (i := 2) rfl (.cons (i := 3) rfl (.cons (i := 15) rfl .nil))))
        refine wp_cond_true (hA.ev rfl) ?_
        refine wp_seq_k fun k7 hk7 => ?_
        refine wp_region_lit ?_
        refine go1 hA rfl rfl rfl (r_build hA rfl T.bd24_) ?_; clear hA a; intro a hA
        first | refine goWS2 (vs := [_, _, _, _, _, _]) (cs' := [_, _, _, _, _, _]) hA rfl rfl T.sz24 (by simp [Value.oneCell']) hS rfl rfl ?_ | refine goWS2 (vs := [_, _, _, _, _, _]) (cs' := [_, _, _, _, _, _]) hA rfl rfl T.sz24 (by simp [Value.oneCell']) (hS.p 1) rfl rfl ?_ | refine goWS2 (vs := [_, _, _, _, _, _]) (cs' := [_, _, _, _, _, _]) hA rfl rfl T.sz24 (by simp [Value.oneCell']) (hS.p 2) rfl rfl ?_
        clear hS; intro w hS
        refine go1 hA rfl rfl rfl (r_assign (hA.ev rfl)) ?_; clear hA a; intro a hA
        refine wpList_nil ?_
        refine hk7 _ _ ?_
        clear hk7 k7
        replace hA := hA.keep (.cons (i := 1) rfl (.cons (i := 2) rfl (.cons (i := 3) rfl .nil)))
        refine wp_ret ?_
        refine then_ret ?_; clear hk5 k5
        refine endR2 hA rfl (resS (cs := [_, _, _, _, _, _]) hA rfl T.ag24 T.sz24 (by first | exact hS.cellsAt (xs := [_, _, _, _, _, _]) rfl | exact (hS.p 1).cellsAt (xs := [_, _, _, _, _, _]) rfl | exact (hS.p 2).cellsAt (xs := [_, _, _, _, _, _]) rfl)) (resT hA rfl) ?_
        exact ⟨_, _, _, _, _, rfl, .inr (.inl ⟨hF, by omega, rfl, rfl, rfl, rfl, rfl⟩), hS.nil⟩
      · clear hA a; intro h14 a hA
        refine go1 hA rfl rfl rfl (r_pick_t (hA.ev rfl) (hA.ev rfl)) ?_; clear hA a; intro a hA
        refine wpList_nil ?_
        refine hk6 _ _ ?_
        clear hk6 k6
        replace hA := hA.keep (.cons (i := 1) rfl (.cons (i := 2) rfl (.cons (i := 3) rfl (.cons (i := 15) rfl .nil))))
        refine wp_cond_false (hA.ev rfl) ?_
        refine wp_skip ?_
        refine hk5 _ _ ?_
        clear hk5 k5
        replace hA := hA.keep (.cons (i := 1) rfl (.cons (i := 2) rfl (.cons (i := 3) rfl .nil)))
        refine wp_seq_k fun k8 hk8 => ?_
        refine wp_region_lit ?_
        refine go1 hA rfl rfl rfl (r_field (hA.ev rfl) T.fo24_2) ?_; clear hA a; intro a hA
        refine go1 hA rfl rfl rfl (r_load (hA.ev rfl) T.fl3 (by first | exact hS.cell rfl | exact (hS.p 1).cell rfl | exact (hS.p 2).cell rfl)) ?_; clear hA a; intro a hA
        refine go1 hA rfl rfl rfl (r_field (hA.ev rfl) T.fo24_1) ?_; clear hA a; intro a hA
        refine go1 hA rfl rfl rfl (r_load (hA.ev rfl) T.fl3 (by first | exact hS.cell rfl | exact (hS.p 1).cell rfl | exact (hS.p 2).cell rfl)) ?_; clear hA a; intro a hA
        refine go1 hA rfl rfl rfl (r_field (hA.ev rfl) T.fo24_4) ?_; clear hA a; intro a hA
        refine go1 hA rfl rfl rfl (r_load (hA.ev rfl) T.fl3 (by first | exact hS.cell rfl | exact (hS.p 1).cell rfl | exact (hS.p 2).cell rfl)) ?_; clear hA a; intro a hA
        refine go1 hA rfl rfl rfl (r_build hA rfl T.bd24_0_1_2_4) ?_; clear hA a; intro a hA
        first | refine goWS2 (vs := [_, _, _, _, _, _]) (cs' := [_, _, _, _, _, _]) hA rfl rfl T.sz24 (by simp [Value.oneCell']) hS rfl rfl ?_ | refine goWS2 (vs := [_, _, _, _, _, _]) (cs' := [_, _, _, _, _, _]) hA rfl rfl T.sz24 (by simp [Value.oneCell']) (hS.p 1) rfl rfl ?_ | refine goWS2 (vs := [_, _, _, _, _, _]) (cs' := [_, _, _, _, _, _]) hA rfl rfl T.sz24 (by simp [Value.oneCell']) (hS.p 2) rfl rfl ?_
        clear hS; intro w hS
        refine go1 hA rfl rfl rfl (r_assign (hA.ev rfl)) ?_; clear hA a; intro a hA
        refine wpList_nil ?_
        refine hk8 _ _ ?_
        clear hk8 k8
        replace hA := hA.keep (.cons (i := 2) rfl (.cons (i := 3) rfl .nil))
        refine wp_ret ?_
        refine endR2 hA rfl (resS (cs := [_, _, _, _, _, _]) hA rfl T.ag24 T.sz24 (by first | exact hS.cellsAt (xs := [_, _, _, _, _, _]) rfl | exact (hS.p 1).cellsAt (xs := [_, _, _, _, _, _]) rfl | exact (hS.p 2).cellsAt (xs := [_, _, _, _, _, _]) rfl)) (resT hA rfl) ?_
        exact ⟨_, _, _, _, _, rfl, .inr (.inr ⟨hF, by omega, rfl, rfl, rfl, rfl, rfl⟩), hS.nil⟩
    · clear hA a; intro h10 a hA
      refine go1 hA rfl rfl rfl (r_move (hA.ev rfl)) ?_; clear hA a; intro a hA
      refine goS hA (wanted_no hA rfl rfl rfl rfl) rfl rfl ?_; clear hA a; intro a hA
      refine goS hA (wanted_no hA rfl rfl rfl rfl) rfl rfl ?_; clear hA a; intro a hA
      refine goS hA (wanted_no hA rfl rfl rfl rfl) rfl rfl ?_; clear hA a; intro a hA
      refine go1 hA rfl rfl rfl (r_pick_f (hA.ev rfl) (hA.ev rfl)) ?_; clear hA a; intro a hA
      refine wpList_nil ?_
      refine hk6 _ _ ?_
      clear hk6 k6
      replace hA := hA.keep (.cons (i := 1) rfl (.cons (i := 2) rfl (.cons (i := 3) rfl (.cons (i := 15) rfl .nil))))
      refine wp_cond_false (hA.ev rfl) ?_
      refine wp_skip ?_
      refine hk5 _ _ ?_
      clear hk5 k5
      replace hA := hA.keep (.cons (i := 1) rfl (.cons (i := 2) rfl (.cons (i := 3) rfl .nil)))
      refine wp_seq_k fun k9 hk9 => ?_
      refine wp_region_lit ?_
      refine go1 hA rfl rfl rfl (r_field (hA.ev rfl) T.fo24_2) ?_; clear hA a; intro a hA
      refine go1 hA rfl rfl rfl (r_load (hA.ev rfl) T.fl3 (by first | exact hS.cell rfl | exact (hS.p 1).cell rfl | exact (hS.p 2).cell rfl)) ?_; clear hA a; intro a hA
      refine go1 hA rfl rfl rfl (r_field (hA.ev rfl) T.fo24_1) ?_; clear hA a; intro a hA
      refine go1 hA rfl rfl rfl (r_load (hA.ev rfl) T.fl3 (by first | exact hS.cell rfl | exact (hS.p 1).cell rfl | exact (hS.p 2).cell rfl)) ?_; clear hA a; intro a hA
      refine go1 hA rfl rfl rfl (r_field (hA.ev rfl) T.fo24_4) ?_; clear hA a; intro a hA
      refine go1 hA rfl rfl rfl (r_load (hA.ev rfl) T.fl3 (by first | exact hS.cell rfl | exact (hS.p 1).cell rfl | exact (hS.p 2).cell rfl)) ?_; clear hA a; intro a hA
      refine go1 hA rfl rfl rfl (r_build hA rfl T.bd24_0_1_2_4) ?_; clear hA a; intro a hA
      first | refine goWS2 (vs := [_, _, _, _, _, _]) (cs' := [_, _, _, _, _, _]) hA rfl rfl T.sz24 (by simp [Value.oneCell']) hS rfl rfl ?_ | refine goWS2 (vs := [_, _, _, _, _, _]) (cs' := [_, _, _, _, _, _]) hA rfl rfl T.sz24 (by simp [Value.oneCell']) (hS.p 1) rfl rfl ?_ | refine goWS2 (vs := [_, _, _, _, _, _]) (cs' := [_, _, _, _, _, _]) hA rfl rfl T.sz24 (by simp [Value.oneCell']) (hS.p 2) rfl rfl ?_
      clear hS; intro w hS
      refine go1 hA rfl rfl rfl (r_assign (hA.ev rfl)) ?_; clear hA a; intro a hA
      refine wpList_nil ?_
      refine hk9 _ _ ?_
      clear hk9 k9
      replace hA := hA.keep (.cons (i := 2) rfl (.cons (i := 3) rfl .nil))
      refine wp_ret ?_
      refine endR2 hA rfl (resS (cs := [_, _, _, _, _, _]) hA rfl T.ag24 T.sz24 (by first | exact hS.cellsAt (xs := [_, _, _, _, _, _]) rfl | exact (hS.p 1).cellsAt (xs := [_, _, _, _, _, _]) rfl | exact (hS.p 2).cellsAt (xs := [_, _, _, _, _, _]) rfl)) (resT hA rfl) ?_
      exact ⟨_, _, _, _, _, rfl, .inr (.inr ⟨hF, by omega, rfl, rfl, rfl, rfl, rfl⟩), hS.nil⟩
set_option maxRecDepth 100000 in
theorem Clone_calls (W : World) (A : Option Addr) (c : Nat) (xs : List Int) (hR : Rd W 1 (.slice A xs.length c) xs.length (xs.map (Value.int .u8))) (hn : xs.length ≤ 140737488355328) : Calls Try.prog 41 #[.slice A xs.length c] W fun e w' => ∃ A' c', e = .returned (.slice A' xs.length c') ∧ Sat W w' [row 5 1 (.slice A' xs.length c') xs.length (xs.map (Value.int .u8))] := by
  refine enter Try.func41 rfl rfl rfl (.cons (i := 0) rfl .nil) ?_
  intro a hA
  have hS := Sat.start W
  refine wp_seq_k fun k1 hk1 => ?_
  refine wp_region_lit ?_
  refine go1 hA rfl rfl rfl (r_assign (hA.ev rfl)) ?_; clear hA a; intro a hA
  refine wpList_nil ?_
  refine hk1 _ _ ?_
  clear hk1 k1
  refine wp_seq_k fun k2 hk2 => ?_
  refine wp_seq_k fun k3 hk3 => ?_
  refine wp_region_lit ?_
  refine go1 hA rfl rfl rfl (r_move (hA.ev rfl)) ?_; clear hA a; intro a hA
  refine go1b hA rfl rfl rfl (r_eqsn (hA.ev rfl) (hA.ev rfl) T.un34) ?_ ?_
  · clear hA a; intro h4 a hA
    refine wpList_nil ?_
    refine hk3 _ _ ?_
    clear hk3 k3
    replace hA := hA.keep (.cons (i := 0) rfl (.cons (i := 2) rfl (.cons (i := 4) rfl .nil)))
    refine wp_cond_true (hA.ev rfl) ?_
    refine wp_seq_k fun k4 hk4 => ?_
    refine wp_region_lit ?_
    refine go1 hA rfl rfl rfl (r_assign (hA.ev rfl)) ?_; clear hA a; intro a hA
    refine wpList_nil ?_
    refine hk4 _ _ ?_
    clear hk4 k4
    replace hA := hA.keep (.cons (i := 0) rfl (.cons (i := 2) rfl .nil))
    refine wp_ret ?_
    refine then_ret ?_; clear hk2 k2
    refine end1 hA rfl rfl ?_
    obtain rfl : A = none := by simpa using h4
    obtain ⟨h1, h2⟩ := hR.nil
    obtain rfl : xs = [] := List.eq_nil_of_length_eq_zero h1
    exact ⟨none, 0, rfl, hS.row_nil _ _⟩
  · clear hA a; intro h4 a hA
    refine wpList_nil ?_
    refine hk3 _ _ ?_
    clear hk3 k3
    replace hA := hA.keep (.cons (i := 0) rfl (.cons (i := 2) rfl (.cons (i := 4) rfl .nil)))
    refine wp_cond_false (hA.ev rfl) ?_
    refine wp_skip ?_
    refine hk2 _ _ ?_
    clear hk2 k2
    replace hA := hA.keep (.cons (i := 0) rfl (.cons (i := 2) rfl .nil))
    refine wp_seq_k fun k5 hk5 => ?_
    refine wp_region_lit ?_
    refine goL0 hA rfl T.un34 T.el5 hS ?_
    clear hA a hS; intro A5 w hS a hA
    refine go1 hA rfl rfl rfl (r_move (hA.ev rfl)) ?_; clear hA a; intro a hA
    refine goA' hA rfl rfl rfl T.un34 T.el5 rfl hS ((hR.sat hS).src T.un34 (bytes_one xs)) (by omega) (by omega) ?_
    clear hA a hS; intro A7 c7 w hc7 hS a hA
    refine go1 hA rfl rfl rfl (r_assign (hA.ev rfl)) ?_; clear hA a; intro a hA
    refine wpList_nil ?_
    refine hk5 _ _ ?_
    clear hk5 k5
    replace hA := hA.keep (.cons (i := 2) rfl .nil)
    refine wp_ret ?_
    refine end1 hA rfl rfl ?_
    simp only [Nat.zero_add, List.nil_append] at hS ⊢
    exact ⟨_, _, rfl, hS⟩
set_option maxRecDepth 100000 in
theorem RefBody_calls (W : World) (k f t lo hi : Int) (A : Option Addr) (c : Nat) (ps : List PartD) (cart : Int) (hR : Rd W 2 (.slice A ps.length c) ps.length (ps.flatMap encP)) (hlen : ps.length ≤ 140737488355328) (hB : Bodies W ps) : Calls Try.prog 19 #[.agg #[.int .i64 k, .int .i64 f, .int .i64 t, .int .i64 lo, .int .i64 hi, .slice A ps.length c], .int .i64 cart] W fun e w' => ∃ A' c' ys found, e = .returned (.tuple #[.slice A' (List.length ys) c', .bool found]) ∧ Found ps cart found ys ∧ Sat W w' [row 5 1 (.slice A' (List.length ys) c') (List.length ys) (List.map (Value.int .u8) ys)] := by
  refine enter Try.func19 rfl rfl rfl (.cons (i := 0) rfl (.cons (i := 1) rfl .nil)) ?_
  intro a hA
  have hS := Sat.start W
  refine wp_seq_k fun k1 hk1 => ?_
  refine wp_region_lit ?_
  refine goB hA rfl rfl hS ?_
  clear hA a hS; intro b2 w hS a hA
  refine go1 hA rfl rfl rfl (r_assign (hA.ev rfl)) ?_; clear hA a; intro a hA
  refine go1 hA rfl rfl rfl (r_assign (hA.ev rfl)) ?_; clear hA a; intro a hA
  refine wpList_nil ?_
  refine hk1 _ _ ?_
  clear hk1 k1
  replace hA := hA.keep (.cons (i := 1) rfl (.cons (i := 2) rfl (.cons (i := 4) rfl (.cons (i := 5) rfl .nil))))
  refine wp_seq_k fun k2 hk2 => ?_
  refine wp_seq_k fun k3 hk3 => ?_
  refine wp_region_lit ?_
  refine go1 hA rfl rfl rfl (r_assign (hA.ev rfl)) ?_; clear hA a; intro a hA
  refine wpList_nil ?_
  refine hk3 _ _ ?_
  clear hk3 k3
  refine wp_block ?_
  refine wp_loop_ghost (fun (mm : Nat) a w => ∃ i : Int, Ag a 30 [(1, .int .i64 cart), (2, .pointer (some ⟨b2, 0, none⟩)), (6, .int .i64 i)] ∧ Sat W w [pto b2 (.cells #[.int .i64 k, .int .i64 f, .int .i64 t, .int .i64 lo, .int .i64 hi, .slice A ps.length c] 24)] ∧ 0 ≤ i ∧ i ≤ ps.length ∧ mm = (ps.length - i).toNat ∧ ∀ (j : Nat) q, (j : Int) < i → ps[j]? = some q → q.cart ≠ cart) ps.length ?_ ?_
  · replace hA := hA.keep (.cons (i := 1) rfl (.cons (i := 2) rfl (.cons (i := 6) rfl .nil)))
    exact ⟨0, hA, hS, by omega, by omega, by omega, fun j q hj => by omega⟩
  intro m a w hI
  obtain ⟨i, hA, hS, hi0, hi1, rfl, hG⟩ := hI
  refine wp_seq_k fun k4 hk4 => ?_
  refine wp_seq_k fun k5 hk5 => ?_
  refine wp_region_lit ?_
  refine go1 hA rfl rfl rfl (r_move (hA.ev rfl)) ?_; clear hA a; intro a hA
  refine go1 hA rfl rfl rfl (r_field (hA.ev rfl) T.fo24_5) ?_; clear hA a; intro a hA
  refine go1 hA rfl rfl rfl (r_load (hA.ev rfl) T.fl22 (by first | exact hS.cell rfl | exact (hS.p 1).cell rfl)) ?_; clear hA a; intro a hA
  refine go1 hA rfl rfl rfl (r_lens (hA.ev rfl) T.un22) ?_; clear hA a; intro a hA
  refine go1s hA rfl rfl rfl (r_lss (hA.ev rfl) (hA.ev rfl)) ?_ ?_
  · clear hA a; intro h11 a hA
    obtain ⟨p0, rfl⟩ : ∃ p, A = some p := hR.hasAddr (by omega)
    obtain ⟨p, hp⟩ : ∃ p, ps[i.toNat]? = some p := ⟨_, List.getElem?_eq_getElem (by omega)⟩
    have hpb := hB p (List.mem_of_getElem? hp)
    refine wpList_nil ?_
    refine hk5 _ _ ?_
    clear hk5 k5
    refine wp_cond_true (hA.ev rfl) ?_
    refine wp_skip ?_
    refine hk4 _ _ ?_
    clear hk4 k4
    refine wp_seq_k fun k6 hk6 => ?_
    refine wp_block ?_
    refine wp_seq_k fun k7 hk7 => ?_
    refine wp_region_lit ?_
    refine go1 hA rfl rfl rfl (r_field (hA.ev rfl) T.fo24_5) ?_; clear hA a; intro a hA
    refine go1 hA rfl rfl rfl (r_load (hA.ev rfl) T.fl22 (by first | exact hS.cell rfl | exact (hS.p 1).cell rfl)) ?_; clear hA a; intro a hA
    refine go1 hA rfl rfl rfl (r_move (hA.ev rfl)) ?_; clear hA a; intro a hA
    refine go1 hA rfl rfl rfl (r_index (hA.ev rfl) (hA.ev rfl) T.un22 T.sz49 (by omega) (by omega)) ?_; clear hA a; intro a hA
    refine go1 hA rfl rfl rfl (r_fieldP (hA.ev rfl) T.fo49_0) ?_; clear hA a; intro a hA
    refine go1 hA rfl rfl rfl (r_load (hA.ev rfl) T.fl3 ((hR.sat hS).elem (part_at hp) 0 _ rfl)) ?_; clear hA a; intro a hA
    refine go1 hA rfl rfl rfl (r_move (hA.ev rfl)) ?_; clear hA a; intro a hA
    refine go1s hA rfl rfl rfl (r_eql (hA.ev rfl) (hA.ev rfl)) ?_ ?_
    · clear hA a; intro h21 a hA
      refine wpList_nil ?_
      refine hk7 _ _ ?_
      clear hk7 k7
      refine wp_cond_true (hA.ev rfl) ?_
      refine wp_seq_k fun k8 hk8 => ?_
      refine wp_region_lit ?_
      refine goL0 hA rfl T.un34 T.el5 hS ?_
      clear hA a hS; intro A22 w hS a hA
      refine go1 hA rfl rfl rfl (r_field (hA.ev rfl) T.fo24_5) ?_; clear hA a; intro a hA
      refine go1 hA rfl rfl rfl (r_load (hA.ev rfl) T.fl22 (by first | exact hS.cell rfl | exact (hS.p 1).cell rfl)) ?_; clear hA a; intro a hA
      refine go1 hA rfl rfl rfl (r_move (hA.ev rfl)) ?_; clear hA a; intro a hA
      refine go1 hA rfl rfl rfl (r_index (hA.ev rfl) (hA.ev rfl) T.un22 T.sz49 (by omega) (by omega)) ?_; clear hA a; intro a hA
      refine go1 hA rfl rfl rfl (r_fieldP (hA.ev rfl) T.fo49_1) ?_; clear hA a; intro a hA
      refine go1 hA rfl rfl rfl (r_load (hA.ev rfl) T.fl34 ((hR.sat hS).elem (part_at hp) 1 _ rfl)) ?_; clear hA a; intro a hA
      refine goA' hA rfl rfl rfl T.un34 T.el5 rfl hS ((hpb.1.sat hS).src T.un34 (bytes_one p.b)) (by have := hpb.2; omega) (by have := hpb.2; omega) ?_
      clear hA a hS; intro A29 c29 w hc29 hS a hA
      refine go1 hA rfl rfl rfl (r_assign (hA.ev rfl)) ?_; clear hA a; intro a hA
      refine go1 hA rfl rfl rfl (r_assign (hA.ev rfl)) ?_; clear hA a; intro a hA
      refine wpList_nil ?_
      refine hk8 _ _ ?_
      clear hk8 k8
      refine wp_ret ?_
      refine block_ret ?_
      refine then_ret ?_; clear hk6 k6
      refine then_ret ?_
      refine block_ret ?_
      refine then_ret ?_; clear hk2 k2
      refine end2 hA rfl rfl rfl ?_
      simp only [Nat.zero_add, List.nil_append] at hS ⊢
      exact ⟨_, _, p.b, _, rfl, .inl ⟨rfl, i.toNat, p, hp, by omega, fun j q hj hq => hG j q (by omega) hq, rfl⟩, hS.pull1.drop⟩
    · clear hA a; intro h21 a hA
      refine wpList_nil ?_
      refine hk7 _ _ ?_
      clear hk7 k7
      refine wp_cond_false (hA.ev rfl) ?_
      refine wp_skip ?_
      refine block_normal ?_
      refine hk6 _ _ ?_
      clear hk6 k6
      refine wp_region_lit ?_
      refine go1 hA rfl rfl rfl (r_move (hA.ev rfl)) ?_; clear hA a; intro a hA
      refine go1 hA rfl rfl rfl (r_add64 (hA.ev rfl) (hA.ev rfl) (by omega) (by omega)) ?_; clear hA a; intro a hA
      refine go1 hA rfl rfl rfl (r_assign (hA.ev rfl)) ?_; clear hA a; intro a hA
      refine wpList_nil ?_
      replace hA := hA.keep (.cons (i := 1) rfl (.cons (i := 2) rfl (.cons (i := 6) rfl .nil)))
      refine ⟨(ps.length - (i + 1)).toNat, by omega, i + 1, hA, hS, by omega, by omega, rfl, fun j q hj hq => ?_⟩
      by_cases hji : (j : Int) < i
      · exact hG j q hji hq
      · obtain rfl : j = i.toNat := by omega
        rw [hp] at hq; cases hq; omega
  · clear hA a; intro h11 a hA
    refine wpList_nil ?_
    refine hk5 _ _ ?_
    clear hk5 k5
    refine wp_cond_false (hA.ev rfl) ?_
    refine wp_exit ?_
    refine then_exit ?_; clear hk4 k4
    refine then_exit ?_
    refine block_hit ?_
    refine hk2 _ _ ?_
    clear hk2 k2
    replace hA := hA.keep .nil
    refine wp_seq_k fun k9 hk9 => ?_
    refine wp_region_lit ?_
    refine go1 hA rfl rfl rfl (r_assign (hA.ev rfl)) ?_; clear hA a; intro a hA
    refine go1 hA rfl rfl rfl (r_assign (hA.ev rfl)) ?_; clear hA a; intro a hA
    refine wpList_nil ?_
    refine hk9 _ _ ?_
    clear hk9 k9
    refine wp_ret ?_
    refine end2 hA rfl rfl rfl ?_
    exact ⟨_, _, [], _, rfl, .inr ⟨rfl, rfl, fun j q hq => hG j q (by have := (List.getElem?_eq_some_iff.1 hq).1; omega) hq⟩, (hS.nil).row_nil _ _⟩
set_option maxRecDepth 100000 in
theorem Body_calls (W : World) (k f t lo hi : Int) (A : Option Addr) (c : Nat) (ps : List PartD) (cart : Int) (hR : Rd W 2 (.slice A ps.length c) ps.length (ps.flatMap encP)) (hlen : ps.length ≤ 140737488355328) (hB : Bodies W ps) : Calls Try.prog 22 #[.agg #[.int .i64 k, .int .i64 f, .int .i64 t, .int .i64 lo, .int .i64 hi, .slice A ps.length c], .int .i64 cart] W fun e w' => ∃ A' c' ys found, e = .returned (.tuple #[.slice A' (List.length ys) c', .bool found]) ∧ Found ps cart found ys ∧ Sat W w' [row 5 1 (.slice A' (List.length ys) c') (List.length ys) (List.map (Value.int .u8) ys)] := by
  refine enter Try.func22 rfl rfl rfl (.cons (i := 0) rfl (.cons (i := 1) rfl .nil)) ?_
  intro a hA
  have hS := Sat.start W
  refine wp_seq_k fun k1 hk1 => ?_
  refine wp_region_lit ?_
  refine goB hA rfl rfl hS ?_
  clear hA a hS; intro b2 w hS a hA
  refine go1 hA rfl rfl rfl (r_assign (hA.ev rfl)) ?_; clear hA a; intro a hA
  refine go1 hA rfl rfl rfl (r_assign (hA.ev rfl)) ?_; clear hA a; intro a hA
  refine wpList_nil ?_
  refine hk1 _ _ ?_
  clear hk1 k1
  replace hA := hA.keep (.cons (i := 1) rfl (.cons (i := 2) rfl (.cons (i := 4) rfl (.cons (i := 5) rfl .nil))))
  refine wp_seq_k fun k2 hk2 => ?_
  refine wp_seq_k fun k3 hk3 => ?_
  refine wp_region_lit ?_
  refine go1 hA rfl rfl rfl (r_field (hA.ev rfl) T.fo24_5) ?_; clear hA a; intro a hA
  refine go1 hA rfl rfl rfl (r_load (hA.ev rfl) T.fl22 (by first | exact hS.cell rfl | exact (hS.p 1).cell rfl)) ?_; clear hA a; intro a hA
  refine go1 hA rfl rfl rfl (r_lens (hA.ev rfl) T.un22) ?_; clear hA a; intro a hA
  refine go1 hA rfl rfl rfl (r_move (hA.ev rfl)) ?_; clear hA a; intro a hA
  refine wpList_nil ?_
  refine hk3 _ _ ?_
  clear hk3 k3
  replace hA := hA.keep (.cons (i := 1) rfl (.cons (i := 4) rfl (.cons (i := 5) rfl (.cons (i := 9) rfl (.cons (i := 10) rfl (.cons (i := 11) rfl .nil))))))
  refine wp_block ?_
  refine wp_loop_ghost (fun (mm : Nat) a w => ∃ i : Int, Ag a 23 [(1, .int .i64 cart), (9, .slice A ps.length c), (10, .int .i64 ps.length), (11, .int .i64 i)] ∧ Sat W w [pto b2 (.cells #[.int .i64 k, .int .i64 f, .int .i64 t, .int .i64 lo, .int .i64 hi, .slice A ps.length c] 24)] ∧ 0 ≤ i ∧ i ≤ ps.length ∧ mm = (ps.length - i).toNat ∧ ∀ (j : Nat) q, (j : Int) < i → ps[j]? = some q → q.cart ≠ cart) ps.length ?_ ?_
  · replace hA := hA.keep (.cons (i := 1) rfl (.cons (i := 9) rfl (.cons (i := 10) rfl (.cons (i := 11) rfl .nil))))
    exact ⟨0, hA, hS, by omega, by omega, by omega, fun j q hj => by omega⟩
  intro m a w hI
  obtain ⟨i, hA, hS, hi0, hi1, rfl, hG⟩ := hI
  refine wp_seq_k fun k4 hk4 => ?_
  refine wp_region_lit ?_
  refine go1s hA rfl rfl rfl (r_lss (hA.ev rfl) (hA.ev rfl)) ?_ ?_
  · clear hA a; intro h12 a hA
    obtain ⟨p0, rfl⟩ : ∃ p, A = some p := hR.hasAddr (by omega)
    obtain ⟨p, hp⟩ : ∃ p, ps[i.toNat]? = some p := ⟨_, List.getElem?_eq_getElem (by omega)⟩
    have hpb := hB p (List.mem_of_getElem? hp)
    refine wpList_nil ?_
    refine hk4 _ _ ?_
    clear hk4 k4
    refine wp_seq_k fun k5 hk5 => ?_
    refine wp_cond_true (hA.ev rfl) ?_
    refine wp_skip ?_
    refine hk5 _ _ ?_
    clear hk5 k5
    refine wp_seq_k fun k6 hk6 => ?_
    refine wp_block ?_
    refine wp_seq_k fun k7 hk7 => ?_
    refine wp_region_lit ?_
    refine go1 hA rfl rfl rfl (r_index (hA.ev rfl) (hA.ev rfl) T.un22 T.sz49 (by omega) (by omega)) ?_; clear hA a; intro a hA
    refine go1 hA rfl rfl rfl (r_loadS (cs := encP p) (hA.ev rfl) T.ag49 T.sz49 ((hR.sat hS).elem (part_at hp))) ?_; clear hA a; intro a hA
    refine goN hA rfl T.zv49 hS ?_
    clear hA a hS; intro b7 w hS a hA
    refine goWS hA (vs := [_, _]) rfl rfl T.sz49 (by simp [Value.oneCell']) hS (by simp) ?_
    clear hS; intro w hS
    refine wpList_nil ?_
    refine hk7 _ _ ?_
    clear hk7 k7
    refine wp_seq_k fun k8 hk8 => ?_
    refine wp_region_lit ?_
    refine go1 hA rfl rfl rfl (r_field (hA.ev rfl) T.fo49_0) ?_; clear hA a; intro a hA
    refine go1 hA rfl rfl rfl (r_load (hA.ev rfl) T.fl3 (by first | exact hS.cell rfl | exact (hS.p 1).cell rfl)) ?_; clear hA a; intro a hA
    refine go1 hA rfl rfl rfl (r_move (hA.ev rfl)) ?_; clear hA a; intro a hA
    refine go1s hA rfl rfl rfl (r_eql (hA.ev rfl) (hA.ev rfl)) ?_ ?_
    · clear hA a; intro h18 a hA
      refine wpList_nil ?_
      refine hk8 _ _ ?_
      clear hk8 k8
      refine wp_cond_true (hA.ev rfl) ?_
      refine wp_seq_k fun k9 hk9 => ?_
      refine wp_region_lit ?_
      refine go1 hA rfl rfl rfl (r_field (hA.ev rfl) T.fo49_1) ?_; clear hA a; intro a hA
      refine go1 hA rfl rfl rfl (r_load (hA.ev rfl) T.fl34 (by first | exact hS.cell rfl | exact (hS.p 1).cell rfl)) ?_; clear hA a; intro a hA
      refine goF hA rfl T.en41 rfl (Clone_calls _ p.A p.c p.b (hpb.1.sat hS) hpb.2) ?_
      clear hA a; rintro e w ⟨A', c', rfl, hT⟩; replace hS : Sat _ _ _ := hS.rebase hT; clear hT
      refine ⟨_, rfl, ?_⟩; intro a hA
      refine go1 hA rfl rfl rfl (r_assign (hA.ev rfl)) ?_; clear hA a; intro a hA
      refine go1 hA rfl rfl rfl (r_assign (hA.ev rfl)) ?_; clear hA a; intro a hA
      refine wpList_nil ?_
      refine hk9 _ _ ?_
      clear hk9 k9
      refine wp_ret ?_
      refine block_ret ?_
      refine then_ret ?_; clear hk6 k6
      refine then_ret ?_
      refine block_ret ?_
      refine then_ret ?_; clear hk2 k2
      refine end2 hA rfl rfl rfl ?_
      exact ⟨_, _, p.b, _, rfl, .inl ⟨rfl, i.toNat, p, hp, by omega, fun j q hj hq => hG j q (by omega) hq, rfl⟩, hS.pull2.pull2.drop.drop⟩
    · clear hA a; intro h18 a hA
      refine wpList_nil ?_
      refine hk8 _ _ ?_
      clear hk8 k8
      refine wp_cond_false (hA.ev rfl) ?_
      refine wp_skip ?_
      refine block_normal ?_
      refine hk6 _ _ ?_
      clear hk6 k6
      refine wp_region_lit ?_
      refine go1 hA rfl rfl rfl (r_add64 (hA.ev rfl) (hA.ev rfl) (by omega) (by omega)) ?_; clear hA a; intro a hA
      refine go1 hA rfl rfl rfl (r_move (hA.ev rfl)) ?_; clear hA a; intro a hA
      refine wpList_nil ?_
      replace hA := hA.keep (.cons (i := 1) rfl (.cons (i := 9) rfl (.cons (i := 10) rfl (.cons (i := 11) rfl .nil))))
      refine ⟨(ps.length - (i + 1)).toNat, by omega, i + 1, hA, hS.drop, by omega, by omega, rfl, fun j q hj hq => ?_⟩
      by_cases hji : (j : Int) < i
      · exact hG j q hji hq
      · obtain rfl : j = i.toNat := by omega
        rw [hp] at hq; cases hq; omega
  · clear hA a; intro h12 a hA
    refine wpList_nil ?_
    refine hk4 _ _ ?_
    clear hk4 k4
    refine wp_seq_k fun k10 hk10 => ?_
    refine wp_cond_false (hA.ev rfl) ?_
    refine wp_exit ?_
    refine then_exit ?_; clear hk10 k10
    refine then_exit ?_
    refine block_hit ?_
    refine hk2 _ _ ?_
    clear hk2 k2
    replace hA := hA.keep .nil
    refine wp_seq_k fun k11 hk11 => ?_
    refine wp_region_lit ?_
    refine go1 hA rfl rfl rfl (r_assign (hA.ev rfl)) ?_; clear hA a; intro a hA
    refine go1 hA rfl rfl rfl (r_assign (hA.ev rfl)) ?_; clear hA a; intro a hA
    refine wpList_nil ?_
    refine hk11 _ _ ?_
    clear hk11 k11
    refine wp_ret ?_
    refine end2 hA rfl rfl rfl ?_
    exact ⟨_, _, [], _, rfl, .inr ⟨rfl, rfl, fun j q hq => hG j q (by have := (List.getElem?_eq_some_iff.1 hq).1; omega) hq⟩, (hS.nil).row_nil _ _⟩
end Go.Proofs.Ytfbdcllbgfohdaa.Wm
