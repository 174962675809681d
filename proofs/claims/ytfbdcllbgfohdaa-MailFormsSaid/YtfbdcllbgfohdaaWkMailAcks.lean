/- The walk of barrowlaw18.MailAcks: it returns true. Conditions: the mail is read as data. -/
import Derived.Test.YtfbdcllbgfohdaaT
import Derived.Test.YtfbdcllbgfohdaaWkMail2
set_option linter.unusedVariables false
set_option linter.unusedSimpArgs false
namespace Go.Proofs.Ytfbdcllbgfohdaa.Wk
open Go Go.RowKit Go.Proofs.Ytfbdcllbgfohdaa Go.Proofs.Ytfbdcllbgfohdaa.K
theorem some_form (A : Option Addr) : Form 1 0 1 2 3 [⟨4, A, 2, [255, 0]⟩] := by
  refine ⟨by omega, by omega, by omega, by omega, by omega, .inl (by omega), fun i p hp => ?_⟩
  match i with
  | 0 =>
    simp at hp
    subst hp
    exact ⟨by simp, by simp, fun q h => absurd h (by omega)⟩
  | i + 1 => simp at hp
theorem ack_form {k f t lo hi : Int} {ps : List PartD} (h : Form k f t lo hi ps) (hk : k = 1 ∨ k = 2) : Form 3 t f 0 hi [] := by
  obtain ⟨h1, h2, h3, h4, h5, h6, _⟩ := h
  unfold Itv at h6
  refine ⟨h3, h4, h1, h2, by omega, .inr (.inr (.inl ⟨rfl, rfl, rfl, by omega, by omega⟩)), fun i p hp => by simp at hp⟩
theorem AckSome_calls (w : World) (A2 A3 : Option Addr) (hR : Rd w 2 (.slice A2 1 1) 1 [.int .i64 4, .slice A3 2 2]) :
    Calls Try.prog 12 #[.agg #[.int .i64 1, .int .i64 0, .int .i64 1, .int .i64 2, .int .i64 3, .slice A2 1 1]] w fun e w' => e = .returned (.tuple #[.agg #[.int .i64 3, .int .i64 1, .int .i64 0, .int .i64 0, .int .i64 3, .slice none 0 0], .int .i64 0]) ∧ Sat w w' [] :=
  (Ack_calls w 1 0 1 2 3 A2 1 [⟨4, A3, 2, [255, 0]⟩] hR (by simp)).mono fun e w' ⟨k', f', t', hi', er, he, hq, hS⟩ => by
    rcases hq with h | h | ⟨_, _, h1, h2, h3, h4, h5⟩
    · exact absurd (some_form A3) h.1
    · omega
    · subst h1 h2 h3 h4 h5; exact ⟨he, hS⟩
theorem AckAck_calls (w : World) (f t hi : Int) (hF : Form 3 f t 0 hi []) :
    Calls Try.prog 12 #[.agg #[.int .i64 3, .int .i64 f, .int .i64 t, .int .i64 0, .int .i64 hi, .slice none 0 0]] w fun e w' => e = .returned (.tuple #[.agg #[.int .i64 0, .int .i64 0, .int .i64 0, .int .i64 0, .int .i64 0, .slice none 0 0], .int .i64 7]) ∧ Sat w w' [] :=
  (Ack_calls w 3 f t 0 hi none 0 [] (rd_none _ _) (by simp)).mono fun e w' ⟨k', f', t', hi', er, he, hq, hS⟩ => by
    rcases hq with h | ⟨_, _, h1, h2, h3, h4, h5⟩ | h
    · exact absurd hF h.1
    · subst h1 h2 h3 h4 h5; exact ⟨he, hS⟩
    · omega
theorem CheckAck_calls (w : World) (f t hi : Int) (hF : Form 3 f t 0 hi []) :
    Calls Try.prog 16 #[.agg #[.int .i64 3, .int .i64 f, .int .i64 t, .int .i64 0, .int .i64 hi, .slice none 0 0]] w fun e w' => e = .returned (.int .i64 0) ∧ Sat w w' [] :=
  (Check_calls w 3 f t 0 hi none 0 [] (rd_none _ _) (by simp)).mono fun e w' ⟨er, he, hq, hS⟩ => by
    rcases hq with ⟨h1, _⟩ | h
    · subst h1; exact ⟨he, hS⟩
    · exact absurd hF h.2
theorem EqualZero_calls (w : World) :
    Calls Try.prog 15 #[.agg #[.int .i64 0, .int .i64 0, .int .i64 0, .int .i64 0, .int .i64 0, .slice none 0 0], .agg #[.int .i64 0, .int .i64 0, .int .i64 0, .int .i64 0, .int .i64 0, .slice none 0 0]] w fun e w' => e = .returned (.bool true) ∧ Sat w w' [] :=
  (Equal_calls w 0 0 0 0 0 none 0 [] 0 0 0 0 0 none 0 [] (rd_none _ _) (by simp) (rd_none _ _) (by simp) (fun p hp => by simp at hp) (fun p hp => by simp at hp)).mono fun e w' ⟨b, he, hb, hS⟩ => by
    obtain rfl : b = true := hb.2 ⟨rfl, rfl, rfl, rfl, rfl, rfl⟩
    exact ⟨he, hS⟩
set_option maxRecDepth 100000 in
theorem MailAcks_calls (W : World) (k f t lo hi : Int) (A : Option Addr) (c : Nat) (ps : List PartD) (hR : Rd W 2 (.slice A ps.length c) ps.length (ps.flatMap encP)) (hlen : ps.length ≤ 140737488355328) : Calls Try.prog 3 #[.agg #[.int .i64 k, .int .i64 f, .int .i64 t, .int .i64 lo, .int .i64 hi, .slice A ps.length c]] W fun e w' => e = .returned (.bool true) ∧ Sat W w' [] := by
  refine enter Try.func3 rfl rfl rfl (.cons (i := 0) rfl .nil) ?_
  intro a hA
  have hS := Sat.start W
  refine wp_seq_k fun k1 hk1 => ?_
  refine wp_region_lit ?_
  refine goB hA rfl rfl hS ?_
  clear hA a hS; intro b1 w hS a hA
  refine go1 hA rfl rfl rfl (r_assign (hA.ev rfl)) ?_; clear hA a; intro a hA
  refine wpList_nil ?_
  refine hk1 _ _ ?_
  clear hk1 k1
  replace hA := hA.keep (.cons (i := 1) rfl (.cons (i := 2) rfl .nil))
  refine wp_seq_k fun k2 hk2 => ?_
  refine wp_region_lit ?_
  refine goF hA rfl T.en13 rfl (some_calls _) ?_
  clear hA a; rintro e w ⟨A2, A3, rfl, hT⟩; replace hS : Sat _ _ _ := hS.rebase hT; clear hT
  refine ⟨_, rfl, ?_⟩; intro a hA
  refine goF hA rfl T.en12 rfl (AckSome_calls _ A2 A3 hS.rd) ?_
  clear hA a; rintro e w ⟨rfl, hT⟩; replace hS : Sat _ _ _ := hS.rebase hT; clear hT
  refine ⟨_, rfl, ?_⟩; intro a hA
  refine go1 hA rfl rfl rfl (r_move (hA.ev rfl)) ?_; clear hA a; intro a hA
  refine go1 hA rfl rfl rfl (r_extract (hA.ev rfl) rfl) ?_; clear hA a; intro a hA
  refine go1 hA rfl rfl rfl (r_extract (hA.ev rfl) rfl) ?_; clear hA a; intro a hA
  refine goN hA rfl T.zv24 hS ?_
  clear hA a hS; intro b3 w hS a hA
  first | refine goWS hA (vs := [_, _, _, _, _, _]) rfl rfl T.sz24 (by simp [Value.oneCell']) hS (by simp) ?_ | refine goWS hA (vs := [_, _, _, _, _, _]) rfl rfl T.sz24 (by simp [Value.oneCell']) hS.pull1 (by simp) ?_ | refine goWS hA (vs := [_, _, _, _, _, _]) rfl rfl T.sz24 (by simp [Value.oneCell']) hS.pull2 (by simp) ?_ | refine goWS hA (vs := [_, _, _, _, _, _]) rfl rfl T.sz24 (by simp [Value.oneCell']) hS.pull3 (by simp) ?_ | refine goWS hA (vs := [_, _, _, _, _, _]) rfl rfl T.sz24 (by simp [Value.oneCell']) hS.pull4 (by simp) ?_
  clear hS; intro w hS
  refine go1 hA rfl rfl rfl (r_assign (hA.ev rfl)) ?_; clear hA a; intro a hA
  refine wpList_nil ?_
  refine hk2 _ _ ?_
  clear hk2 k2
  replace hA := hA.keep (.cons (i := 1) rfl (.cons (i := 2) rfl (.cons (i := 3) rfl (.cons (i := 4) rfl .nil))))
  refine wp_seq_k fun k3 hk3 => ?_
  refine wp_seq_k fun k4 hk4 => ?_
  refine wp_region_lit ?_
  refine go1 hA rfl rfl rfl (r_move (hA.ev rfl)) ?_; clear hA a; intro a hA
  refine go1 hA rfl rfl rfl (as_f (r_neq (hA.ev rfl) (hA.ev rfl)) (by omega)) ?_; clear hA a; intro a hA
  refine go1 hA rfl rfl rfl (r_move (hA.ev rfl)) ?_; clear hA a; intro a hA
  refine go1y hA (wanted_yes hA rfl rfl rfl) rfl rfl (r_field (hA.ev rfl) T.fo24_0) ?_; clear hA a; intro a hA
  refine go1y hA (wanted_yes hA rfl rfl rfl) rfl rfl (r_load (hA.ev rfl) T.fl3 (by first | exact hS.cell rfl | exact hS.pull1.cell rfl | exact hS.pull2.cell rfl | exact hS.pull3.cell rfl | exact hS.pull4.cell rfl)) ?_; clear hA a; intro a hA
  refine go1y hA (wanted_yes hA rfl rfl rfl) rfl rfl (as_f (r_neq (hA.ev rfl) (hA.ev rfl)) (by omega)) ?_; clear hA a; intro a hA
  refine go1 hA rfl rfl rfl (r_pick_f (hA.ev rfl) (hA.ev rfl)) ?_; clear hA a; intro a hA
  refine wpList_nil ?_
  refine hk4 _ _ ?_
  clear hk4 k4
  replace hA := hA.keep (.cons (i := 1) rfl (.cons (i := 2) rfl (.cons (i := 3) rfl (.cons (i := 4) rfl (.cons (i := 16) rfl .nil)))))
  refine wp_cond_false (hA.ev rfl) ?_
  refine wp_skip ?_
  refine hk3 _ _ ?_
  clear hk3 k3
  replace hA := hA.keep (.cons (i := 1) rfl (.cons (i := 2) rfl (.cons (i := 3) rfl (.cons (i := 4) rfl .nil))))
  refine wp_seq_k fun k5 hk5 => ?_
  refine wp_region_lit ?_
  refine go1 hA rfl rfl rfl (r_loadS (cs := [_, _, _, _, _, _]) (hA.ev rfl) T.ag24 T.sz24 (by first | exact hS.cellsAt (xs := [_, _, _, _, _, _]) rfl | exact hS.pull1.cellsAt (xs := [_, _, _, _, _, _]) rfl | exact hS.pull2.cellsAt (xs := [_, _, _, _, _, _]) rfl | exact hS.pull3.cellsAt (xs := [_, _, _, _, _, _]) rfl | exact hS.pull4.cellsAt (xs := [_, _, _, _, _, _]) rfl)) ?_; clear hA a; intro a hA
  refine goF hA rfl T.en12 rfl (Ack_calls _ k f t lo hi A c ps (hR.sat hS) hlen) ?_
  clear hA a; rintro e w ⟨k', f', t', hi', er, rfl, hq, hT⟩; replace hS : Sat _ _ _ := hS.rebase hT; clear hT
  refine ⟨_, rfl, ?_⟩; intro a hA
  refine go1 hA rfl rfl rfl (r_move (hA.ev rfl)) ?_; clear hA a; intro a hA
  refine go1 hA rfl rfl rfl (r_extract (hA.ev rfl) rfl) ?_; clear hA a; intro a hA
  refine go1 hA rfl rfl rfl (r_extract (hA.ev rfl) rfl) ?_; clear hA a; intro a hA
  first | refine goWS hA (vs := [_, _, _, _, _, _]) rfl rfl T.sz24 (by simp [Value.oneCell']) hS (by simp) ?_ | refine goWS hA (vs := [_, _, _, _, _, _]) rfl rfl T.sz24 (by simp [Value.oneCell']) hS.pull1 (by simp) ?_ | refine goWS hA (vs := [_, _, _, _, _, _]) rfl rfl T.sz24 (by simp [Value.oneCell']) hS.pull2 (by simp) ?_ | refine goWS hA (vs := [_, _, _, _, _, _]) rfl rfl T.sz24 (by simp [Value.oneCell']) hS.pull3 (by simp) ?_ | refine goWS hA (vs := [_, _, _, _, _, _]) rfl rfl T.sz24 (by simp [Value.oneCell']) hS.pull4 (by simp) ?_
  clear hS; intro w hS
  refine go1 hA rfl rfl rfl (r_assign (hA.ev rfl)) ?_; clear hA a; intro a hA
  refine wpList_nil ?_
  refine hk5 _ _ ?_
  clear hk5 k5
  replace hA := hA.keep (.cons (i := 1) rfl (.cons (i := 2) rfl (.cons (i := 3) rfl (.cons (i := 4) rfl .nil))))
  refine wp_seq_k fun k6 hk6 => ?_
  refine wp_seq_k fun k7 hk7 => ?_
  refine wp_region_lit ?_
  refine go1 hA rfl rfl rfl (r_loadS (cs := [_, _, _, _, _, _]) (hA.ev rfl) T.ag24 T.sz24 (by first | exact hS.cellsAt (xs := [_, _, _, _, _, _]) rfl | exact hS.pull1.cellsAt (xs := [_, _, _, _, _, _]) rfl | exact hS.pull2.cellsAt (xs := [_, _, _, _, _, _]) rfl | exact hS.pull3.cellsAt (xs := [_, _, _, _, _, _]) rfl | exact hS.pull4.cellsAt (xs := [_, _, _, _, _, _]) rfl)) ?_; clear hA a; intro a hA
  refine goF hA rfl T.en14 rfl (RefCheck_calls _ k f t lo hi A c ps (hR.sat hS) hlen) ?_
  clear hA a; rintro e w ⟨er2, rfl, hc, hT⟩; replace hS : Sat _ _ _ := hS.rebase hT; clear hT
  refine ⟨_, rfl, ?_⟩; intro a hA
  refine go1s hA rfl rfl rfl (r_neq (hA.ev rfl) (hA.ev rfl)) ?_ ?_
  · clear hA a; intro h24 a hA
    have hF : ¬ Form k f t lo hi ps := by
      rcases hc with ⟨h, _⟩ | ⟨_, h⟩
      · omega
      · exact h
    obtain ⟨rfl, rfl, rfl, rfl, rfl⟩ : er = 1 ∧ k' = 0 ∧ f' = 0 ∧ t' = 0 ∧ hi' = 0 := by
      rcases hq with h | h | h
      · exact h.2
      · exact absurd h.1 hF
      · exact absurd h.1 hF
    refine wpList_nil ?_
    refine hk7 _ _ ?_
    clear hk7 k7
    replace hA := hA.keep (.cons (i := 1) rfl (.cons (i := 2) rfl (.cons (i := 3) rfl (.cons (i := 4) rfl (.cons (i := 24) rfl .nil)))))
    refine wp_cond_true (hA.ev rfl) ?_
    refine wp_seq_k fun k8 hk8 => ?_
    refine wp_region_lit ?_
    refine go1 hA rfl rfl rfl (r_move (hA.ev rfl)) ?_; clear hA a; intro a hA
    refine go1 hA rfl rfl rfl (as_t (r_eql (hA.ev rfl) (hA.ev rfl)) (by omega)) ?_; clear hA a; intro a hA
    refine go1 hA rfl rfl rfl (r_move (hA.ev rfl)) ?_; clear hA a; intro a hA
    refine go1y hA (wanted_yes hA rfl rfl rfl) rfl rfl (r_loadS (cs := [_, _, _, _, _, _]) (hA.ev rfl) T.ag24 T.sz24 (by first | exact hS.cellsAt (xs := [_, _, _, _, _, _]) rfl | exact hS.pull1.cellsAt (xs := [_, _, _, _, _, _]) rfl | exact hS.pull2.cellsAt (xs := [_, _, _, _, _, _]) rfl | exact hS.pull3.cellsAt (xs := [_, _, _, _, _, _]) rfl | exact hS.pull4.cellsAt (xs := [_, _, _, _, _, _]) rfl)) ?_; clear hA a; intro a hA
    refine go1y hA (wanted_yes hA rfl rfl rfl) rfl rfl (r_build hA rfl T.bd24_) ?_; clear hA a; intro a hA
    refine goFy hA (wanted_yes hA rfl rfl rfl) rfl T.en15 rfl (EqualZero_calls _) ?_
    clear hA a; rintro e w ⟨rfl, hT⟩; replace hS : Sat _ _ _ := hS.rebase hT; clear hT
    refine ⟨_, rfl, ?_⟩; intro a hA
    refine go1 hA rfl rfl rfl (r_pick_t (hA.ev rfl) (hA.ev rfl)) ?_; clear hA a; intro a hA
    refine go1 hA rfl rfl rfl (r_assign (hA.ev rfl)) ?_; clear hA a; intro a hA
    refine wpList_nil ?_
    refine hk8 _ _ ?_
    clear hk8 k8
    replace hA := hA.keep (.cons (i := 1) rfl (.cons (i := 2) rfl (.cons (i := 3) rfl (.cons (i := 4) rfl .nil))))
    refine wp_ret ?_
    refine then_ret ?_; clear hk6 k6
    refine end1 hA rfl rfl ?_
    exact ⟨rfl, hS.nil⟩
  · clear hA a; intro h24 a hA
    have hF : Form k f t lo hi ps := by
      rcases hc with ⟨_, h⟩ | ⟨h, _⟩
      · exact h
      · omega
    refine wpList_nil ?_
    refine hk7 _ _ ?_
    clear hk7 k7
    replace hA := hA.keep (.cons (i := 1) rfl (.cons (i := 2) rfl (.cons (i := 3) rfl (.cons (i := 4) rfl (.cons (i := 24) rfl .nil)))))
    refine wp_cond_false (hA.ev rfl) ?_
    refine wp_skip ?_
    refine hk6 _ _ ?_
    clear hk6 k6
    replace hA := hA.keep (.cons (i := 1) rfl (.cons (i := 2) rfl (.cons (i := 3) rfl (.cons (i := 4) rfl .nil))))
    refine wp_seq_k fun k9 hk9 => ?_
    refine wp_seq_k fun k10 hk10 => ?_
    refine wp_region_lit ?_
    refine go1 hA rfl rfl rfl (r_field (hA.ev rfl) T.fo24_0) ?_; clear hA a; intro a hA
    refine go1 hA rfl rfl rfl (r_load (hA.ev rfl) T.fl3 (by first | exact hS.cell rfl | exact hS.pull1.cell rfl | exact hS.pull2.cell rfl | exact hS.pull3.cell rfl | exact hS.pull4.cell rfl)) ?_; clear hA a; intro a hA
    refine go1s hA rfl rfl rfl (r_neq (hA.ev rfl) (hA.ev rfl)) ?_ ?_
    · clear hA a; intro h34 a hA
      refine go1 hA rfl rfl rfl (r_move (hA.ev rfl)) ?_; clear hA a; intro a hA
      refine go1y hA (wanted_yes hA rfl rfl rfl) rfl rfl (r_field (hA.ev rfl) T.fo24_0) ?_; clear hA a; intro a hA
      refine go1y hA (wanted_yes hA rfl rfl rfl) rfl rfl (r_load (hA.ev rfl) T.fl3 (by first | exact hS.cell rfl | exact hS.pull1.cell rfl | exact hS.pull2.cell rfl | exact hS.pull3.cell rfl | exact hS.pull4.cell rfl)) ?_; clear hA a; intro a hA
      refine go1sy hA (wanted_yes hA rfl rfl rfl) rfl rfl (r_neq (hA.ev rfl) (hA.ev rfl)) ?_ ?_
      · clear hA a; intro h38 a hA
        obtain ⟨rfl, rfl, rfl, rfl, rfl⟩ : er = 7 ∧ k' = 0 ∧ f' = 0 ∧ t' = 0 ∧ hi' = 0 := by
          rcases hq with h | h | h
          · exact absurd hF h.1
          · exact h.2.2
          · omega
        refine go1 hA rfl rfl rfl (r_pick_t (hA.ev rfl) (hA.ev rfl)) ?_; clear hA a; intro a hA
        refine wpList_nil ?_
        refine hk10 _ _ ?_
        clear hk10 k10
        replace hA := hA.keep (.cons (i := 1) rfl (.cons (i := 2) rfl (.cons (i := 3) rfl (.cons (i := 4) rfl (.cons (i := 39) rfl .nil)))))
        refine wp_cond_true (hA.ev rfl) ?_
        refine wp_seq_k fun k11 hk11 => ?_
        refine wp_region_lit ?_
        refine go1 hA rfl rfl rfl (r_move (hA.ev rfl)) ?_; clear hA a; intro a hA
        refine go1 hA rfl rfl rfl (as_t (r_eql (hA.ev rfl) (hA.ev rfl)) (by omega)) ?_; clear hA a; intro a hA
        refine go1 hA rfl rfl rfl (r_move (hA.ev rfl)) ?_; clear hA a; intro a hA
        refine go1y hA (wanted_yes hA rfl rfl rfl) rfl rfl (r_loadS (cs := [_, _, _, _, _, _]) (hA.ev rfl) T.ag24 T.sz24 (by first | exact hS.cellsAt (xs := [_, _, _, _, _, _]) rfl | exact hS.pull1.cellsAt (xs := [_, _, _, _, _, _]) rfl | exact hS.pull2.cellsAt (xs := [_, _, _, _, _, _]) rfl | exact hS.pull3.cellsAt (xs := [_, _, _, _, _, _]) rfl | exact hS.pull4.cellsAt (xs := [_, _, _, _, _, _]) rfl)) ?_; clear hA a; intro a hA
        refine go1y hA (wanted_yes hA rfl rfl rfl) rfl rfl (r_build hA rfl T.bd24_) ?_; clear hA a; intro a hA
        refine goFy hA (wanted_yes hA rfl rfl rfl) rfl T.en15 rfl (EqualZero_calls _) ?_
        clear hA a; rintro e w ⟨rfl, hT⟩; replace hS : Sat _ _ _ := hS.rebase hT; clear hT
        refine ⟨_, rfl, ?_⟩; intro a hA
        refine go1 hA rfl rfl rfl (r_pick_t (hA.ev rfl) (hA.ev rfl)) ?_; clear hA a; intro a hA
        refine go1 hA rfl rfl rfl (r_assign (hA.ev rfl)) ?_; clear hA a; intro a hA
        refine wpList_nil ?_
        refine hk11 _ _ ?_
        clear hk11 k11
        replace hA := hA.keep (.cons (i := 1) rfl (.cons (i := 2) rfl (.cons (i := 3) rfl (.cons (i := 4) rfl .nil))))
        refine wp_ret ?_
        refine then_ret ?_; clear hk9 k9
        refine end1 hA rfl rfl ?_
        exact ⟨rfl, hS.nil⟩
      · clear hA a; intro h38 a hA
        have hF3 : Form 3 t f 0 hi [] := ack_form hF (by omega)
        obtain ⟨rfl, rfl, rfl, rfl, rfl⟩ : er = 0 ∧ 3 = k' ∧ t = f' ∧ f = t' ∧ hi = hi' := by
          rcases hq with h | h | h
          · exact absurd hF h.1
          · omega
          · obtain ⟨-, -, h⟩ := h; omega
        refine go1 hA rfl rfl rfl (r_pick_t (hA.ev rfl) (hA.ev rfl)) ?_; clear hA a; intro a hA
        refine wpList_nil ?_
        refine hk10 _ _ ?_
        clear hk10 k10
        replace hA := hA.keep (.cons (i := 1) rfl (.cons (i := 2) rfl (.cons (i := 3) rfl (.cons (i := 4) rfl (.cons (i := 39) rfl .nil)))))
        refine wp_cond_false (hA.ev rfl) ?_
        refine wp_skip ?_
        refine hk9 _ _ ?_
        clear hk9 k9
        replace hA := hA.keep (.cons (i := 1) rfl (.cons (i := 2) rfl (.cons (i := 3) rfl (.cons (i := 4) rfl .nil))))
        refine wp_seq_k fun k12 hk12 => ?_
        refine wp_seq_k fun k13 hk13 => ?_
        refine wp_region_lit ?_
        refine go1 hA rfl rfl rfl (r_move (hA.ev rfl)) ?_; clear hA a; intro a hA
        refine go1 hA rfl rfl rfl (as_f (r_neq (hA.ev rfl) (hA.ev rfl)) (by omega)) ?_; clear hA a; intro a hA
        refine go1 hA rfl rfl rfl (r_move (hA.ev rfl)) ?_; clear hA a; intro a hA
        refine go1y hA (wanted_yes hA rfl rfl rfl) rfl rfl (r_loadS (cs := [_, _, _, _, _, _]) (hA.ev rfl) T.ag24 T.sz24 (by first | exact hS.cellsAt (xs := [_, _, _, _, _, _]) rfl | exact hS.pull1.cellsAt (xs := [_, _, _, _, _, _]) rfl | exact hS.pull2.cellsAt (xs := [_, _, _, _, _, _]) rfl | exact hS.pull3.cellsAt (xs := [_, _, _, _, _, _]) rfl | exact hS.pull4.cellsAt (xs := [_, _, _, _, _, _]) rfl)) ?_; clear hA a; intro a hA
        refine goFy hA (wanted_yes hA rfl rfl rfl) rfl T.en16 rfl (CheckAck_calls _ t f hi hF3) ?_
        clear hA a; rintro e w ⟨rfl, hT⟩; replace hS : Sat _ _ _ := hS.rebase hT; clear hT
        refine ⟨_, rfl, ?_⟩; intro a hA
        refine go1y hA (wanted_yes hA rfl rfl rfl) rfl rfl (as_f (r_neq (hA.ev rfl) (hA.ev rfl)) (by omega)) ?_; clear hA a; intro a hA
        refine go1 hA rfl rfl rfl (r_pick_f (hA.ev rfl) (hA.ev rfl)) ?_; clear hA a; intro a hA
        refine go1 hA rfl rfl rfl (r_move (hA.ev rfl)) ?_; clear hA a; intro a hA
        refine go1y hA (wanted_yes hA rfl rfl rfl) rfl rfl (r_field (hA.ev rfl) T.fo24_1) ?_; clear hA a; intro a hA
        refine go1y hA (wanted_yes hA rfl rfl rfl) rfl rfl (r_load (hA.ev rfl) T.fl3 (by first | exact hS.cell rfl | exact hS.pull1.cell rfl | exact hS.pull2.cell rfl | exact hS.pull3.cell rfl | exact hS.pull4.cell rfl)) ?_; clear hA a; intro a hA
        refine go1y hA (wanted_yes hA rfl rfl rfl) rfl rfl (r_field (hA.ev rfl) T.fo24_2) ?_; clear hA a; intro a hA
        refine go1y hA (wanted_yes hA rfl rfl rfl) rfl rfl (r_load (hA.ev rfl) T.fl3 (by first | exact hS.cell rfl | exact hS.pull1.cell rfl | exact hS.pull2.cell rfl | exact hS.pull3.cell rfl | exact hS.pull4.cell rfl)) ?_; clear hA a; intro a hA
        refine go1y hA (wanted_yes hA rfl rfl rfl) rfl rfl (as_f (r_neq (hA.ev rfl) (hA.ev rfl)) (by omega)) ?_; clear hA a; intro a hA
        refine go1 hA rfl rfl rfl (r_pick_f (hA.ev rfl) (hA.ev rfl)) ?_; clear hA a; intro a hA
        refine go1 hA rfl rfl rfl (r_move (hA.ev rfl)) ?_; clear hA a; intro a hA
        refine go1y hA (wanted_yes hA rfl rfl rfl) rfl rfl (r_field (hA.ev rfl) T.fo24_2) ?_; clear hA a; intro a hA
        refine go1y hA (wanted_yes hA rfl rfl rfl) rfl rfl (r_load (hA.ev rfl) T.fl3 (by first | exact hS.cell rfl | exact hS.pull1.cell rfl | exact hS.pull2.cell rfl | exact hS.pull3.cell rfl | exact hS.pull4.cell rfl)) ?_; clear hA a; intro a hA
        refine go1y hA (wanted_yes hA rfl rfl rfl) rfl rfl (r_field (hA.ev rfl) T.fo24_1) ?_; clear hA a; intro a hA
        refine go1y hA (wanted_yes hA rfl rfl rfl) rfl rfl (r_load (hA.ev rfl) T.fl3 (by first | exact hS.cell rfl | exact hS.pull1.cell rfl | exact hS.pull2.cell rfl | exact hS.pull3.cell rfl | exact hS.pull4.cell rfl)) ?_; clear hA a; intro a hA
        refine go1y hA (wanted_yes hA rfl rfl rfl) rfl rfl (as_f (r_neq (hA.ev rfl) (hA.ev rfl)) (by omega)) ?_; clear hA a; intro a hA
        refine go1 hA rfl rfl rfl (r_pick_f (hA.ev rfl) (hA.ev rfl)) ?_; clear hA a; intro a hA
        refine go1 hA rfl rfl rfl (r_move (hA.ev rfl)) ?_; clear hA a; intro a hA
        refine go1y hA (wanted_yes hA rfl rfl rfl) rfl rfl (r_field (hA.ev rfl) T.fo24_3) ?_; clear hA a; intro a hA
        refine go1y hA (wanted_yes hA rfl rfl rfl) rfl rfl (r_load (hA.ev rfl) T.fl3 (by first | exact hS.cell rfl | exact hS.pull1.cell rfl | exact hS.pull2.cell rfl | exact hS.pull3.cell rfl | exact hS.pull4.cell rfl)) ?_; clear hA a; intro a hA
        refine go1y hA (wanted_yes hA rfl rfl rfl) rfl rfl (as_f (r_neq (hA.ev rfl) (hA.ev rfl)) (by omega)) ?_; clear hA a; intro a hA
        refine go1 hA rfl rfl rfl (r_pick_f (hA.ev rfl) (hA.ev rfl)) ?_; clear hA a; intro a hA
        refine go1 hA rfl rfl rfl (r_move (hA.ev rfl)) ?_; clear hA a; intro a hA
        refine go1y hA (wanted_yes hA rfl rfl rfl) rfl rfl (r_field (hA.ev rfl) T.fo24_4) ?_; clear hA a; intro a hA
        refine go1y hA (wanted_yes hA rfl rfl rfl) rfl rfl (r_load (hA.ev rfl) T.fl3 (by first | exact hS.cell rfl | exact hS.pull1.cell rfl | exact hS.pull2.cell rfl | exact hS.pull3.cell rfl | exact hS.pull4.cell rfl)) ?_; clear hA a; intro a hA
        refine go1y hA (wanted_yes hA rfl rfl rfl) rfl rfl (r_field (hA.ev rfl) T.fo24_4) ?_; clear hA a; intro a hA
        refine go1y hA (wanted_yes hA rfl rfl rfl) rfl rfl (r_load (hA.ev rfl) T.fl3 (by first | exact hS.cell rfl | exact hS.pull1.cell rfl | exact hS.pull2.cell rfl | exact hS.pull3.cell rfl | exact hS.pull4.cell rfl)) ?_; clear hA a; intro a hA
        refine go1y hA (wanted_yes hA rfl rfl rfl) rfl rfl (as_f (r_neq (hA.ev rfl) (hA.ev rfl)) (by omega)) ?_; clear hA a; intro a hA
        refine go1 hA rfl rfl rfl (r_pick_f (hA.ev rfl) (hA.ev rfl)) ?_; clear hA a; intro a hA
        refine go1 hA rfl rfl rfl (r_move (hA.ev rfl)) ?_; clear hA a; intro a hA
        refine go1y hA (wanted_yes hA rfl rfl rfl) rfl rfl (r_field (hA.ev rfl) T.fo24_5) ?_; clear hA a; intro a hA
        refine go1y hA (wanted_yes hA rfl rfl rfl) rfl rfl (r_load (hA.ev rfl) T.fl22 (by first | exact hS.cell rfl | exact hS.pull1.cell rfl | exact hS.pull2.cell rfl | exact hS.pull3.cell rfl | exact hS.pull4.cell rfl)) ?_; clear hA a; intro a hA
        refine go1y hA (wanted_yes hA rfl rfl rfl) rfl rfl (r_lens (hA.ev rfl) T.un22) ?_; clear hA a; intro a hA
        refine go1y hA (wanted_yes hA rfl rfl rfl) rfl rfl (as_f (r_neq (hA.ev rfl) (hA.ev rfl)) (by omega)) ?_; clear hA a; intro a hA
        refine go1 hA rfl rfl rfl (r_pick_f (hA.ev rfl) (hA.ev rfl)) ?_; clear hA a; intro a hA
        refine go1 hA rfl rfl rfl (r_move (hA.ev rfl)) ?_; clear hA a; intro a hA
        refine go1y hA (wanted_yes hA rfl rfl rfl) rfl rfl (r_field (hA.ev rfl) T.fo24_0) ?_; clear hA a; intro a hA
        refine go1y hA (wanted_yes hA rfl rfl rfl) rfl rfl (r_load (hA.ev rfl) T.fl3 (by first | exact hS.cell rfl | exact hS.pull1.cell rfl | exact hS.pull2.cell rfl | exact hS.pull3.cell rfl | exact hS.pull4.cell rfl)) ?_; clear hA a; intro a hA
        refine go1y hA (wanted_yes hA rfl rfl rfl) rfl rfl (as_f (r_neq (hA.ev rfl) (hA.ev rfl)) (by omega)) ?_; clear hA a; intro a hA
        refine go1 hA rfl rfl rfl (r_pick_f (hA.ev rfl) (hA.ev rfl)) ?_; clear hA a; intro a hA
        refine wpList_nil ?_
        refine hk13 _ _ ?_
        clear hk13 k13
        replace hA := hA.keep (.cons (i := 2) rfl (.cons (i := 3) rfl (.cons (i := 4) rfl (.cons (i := 90) rfl .nil))))
        refine wp_cond_false (hA.ev rfl) ?_
        refine wp_skip ?_
        refine hk12 _ _ ?_
        clear hk12 k12
        replace hA := hA.keep (.cons (i := 2) rfl (.cons (i := 3) rfl (.cons (i := 4) rfl .nil)))
        refine wp_seq_k fun k14 hk14 => ?_
        refine wp_region_lit ?_
        refine go1 hA rfl rfl rfl (r_loadS (cs := [_, _, _, _, _, _]) (hA.ev rfl) T.ag24 T.sz24 (by first | exact hS.cellsAt (xs := [_, _, _, _, _, _]) rfl | exact hS.pull1.cellsAt (xs := [_, _, _, _, _, _]) rfl | exact hS.pull2.cellsAt (xs := [_, _, _, _, _, _]) rfl | exact hS.pull3.cellsAt (xs := [_, _, _, _, _, _]) rfl | exact hS.pull4.cellsAt (xs := [_, _, _, _, _, _]) rfl)) ?_; clear hA a; intro a hA
        refine goF hA rfl T.en12 rfl (AckAck_calls _ t f hi hF3) ?_
        clear hA a; rintro e w ⟨rfl, hT⟩; replace hS : Sat _ _ _ := hS.rebase hT; clear hT
        refine ⟨_, rfl, ?_⟩; intro a hA
        refine go1 hA rfl rfl rfl (r_move (hA.ev rfl)) ?_; clear hA a; intro a hA
        refine go1 hA rfl rfl rfl (r_extract (hA.ev rfl) rfl) ?_; clear hA a; intro a hA
        refine go1 hA rfl rfl rfl (r_extract (hA.ev rfl) rfl) ?_; clear hA a; intro a hA
        refine go1 hA rfl rfl rfl (r_assign (hA.ev rfl)) ?_; clear hA a; intro a hA
        refine wpList_nil ?_
        refine hk14 _ _ ?_
        clear hk14 k14
        replace hA := hA.keep (.cons (i := 2) rfl (.cons (i := 4) rfl .nil))
        refine wp_seq_k fun k15 hk15 => ?_
        refine wp_region_lit ?_
        refine go1 hA rfl rfl rfl (r_move (hA.ev rfl)) ?_; clear hA a; intro a hA
        refine go1 hA rfl rfl rfl (as_t (r_eql (hA.ev rfl) (hA.ev rfl)) (by omega)) ?_; clear hA a; intro a hA
        refine go1 hA rfl rfl rfl (r_assign (hA.ev rfl)) ?_; clear hA a; intro a hA
        refine wpList_nil ?_
        refine hk15 _ _ ?_
        clear hk15 k15
        replace hA := hA.keep (.cons (i := 2) rfl .nil)
        refine wp_ret ?_
        refine end1 hA rfl rfl ?_
        exact ⟨rfl, hS.nil⟩
    · clear hA a; intro h34 a hA
      have hF3 : Form 3 t f 0 hi [] := ack_form hF (by omega)
      obtain ⟨rfl, rfl, rfl, rfl, rfl⟩ : er = 0 ∧ 3 = k' ∧ t = f' ∧ f = t' ∧ hi = hi' := by
        rcases hq with h | h | h
        · exact absurd hF h.1
        · omega
        · obtain ⟨-, -, h⟩ := h; omega
      refine go1 hA rfl rfl rfl (r_move (hA.ev rfl)) ?_; clear hA a; intro a hA
      refine goS hA (wanted_no hA rfl rfl rfl rfl) rfl rfl ?_; clear hA a; intro a hA
      refine goS hA (wanted_no hA rfl rfl rfl rfl) rfl rfl ?_; clear hA a; intro a hA
      refine goS hA (wanted_no hA rfl rfl rfl rfl) rfl rfl ?_; clear hA a; intro a hA
      refine go1 hA rfl rfl rfl (r_pick_f (hA.ev rfl) (hA.ev rfl)) ?_; clear hA a; intro a hA
      refine wpList_nil ?_
      refine hk10 _ _ ?_
      clear hk10 k10
      replace hA := hA.keep (.cons (i := 1) rfl (.cons (i := 2) rfl (.cons (i := 3) rfl (.cons (i := 4) rfl (.cons (i := 39) rfl .nil)))))
      refine wp_cond_false (hA.ev rfl) ?_
      refine wp_skip ?_
      refine hk9 _ _ ?_
      clear hk9 k9
      replace hA := hA.keep (.cons (i := 1) rfl (.cons (i := 2) rfl (.cons (i := 3) rfl (.cons (i := 4) rfl .nil))))
      refine wp_seq_k fun k16 hk16 => ?_
      refine wp_seq_k fun k17 hk17 => ?_
      refine wp_region_lit ?_
      refine go1 hA rfl rfl rfl (r_move (hA.ev rfl)) ?_; clear hA a; intro a hA
      refine go1 hA rfl rfl rfl (as_f (r_neq (hA.ev rfl) (hA.ev rfl)) (by omega)) ?_; clear hA a; intro a hA
      refine go1 hA rfl rfl rfl (r_move (hA.ev rfl)) ?_; clear hA a; intro a hA
      refine go1y hA (wanted_yes hA rfl rfl rfl) rfl rfl (r_loadS (cs := [_, _, _, _, _, _]) (hA.ev rfl) T.ag24 T.sz24 (by first | exact hS.cellsAt (xs := [_, _, _, _, _, _]) rfl | exact hS.pull1.cellsAt (xs := [_, _, _, _, _, _]) rfl | exact hS.pull2.cellsAt (xs := [_, _, _, _, _, _]) rfl | exact hS.pull3.cellsAt (xs := [_, _, _, _, _, _]) rfl | exact hS.pull4.cellsAt (xs := [_, _, _, _, _, _]) rfl)) ?_; clear hA a; intro a hA
      refine goFy hA (wanted_yes hA rfl rfl rfl) rfl T.en16 rfl (CheckAck_calls _ t f hi hF3) ?_
      clear hA a; rintro e w ⟨rfl, hT⟩; replace hS : Sat _ _ _ := hS.rebase hT; clear hT
      refine ⟨_, rfl, ?_⟩; intro a hA
      refine go1y hA (wanted_yes hA rfl rfl rfl) rfl rfl (as_f (r_neq (hA.ev rfl) (hA.ev rfl)) (by omega)) ?_; clear hA a; intro a hA
      refine go1 hA rfl rfl rfl (r_pick_f (hA.ev rfl) (hA.ev rfl)) ?_; clear hA a; intro a hA
      refine go1 hA rfl rfl rfl (r_move (hA.ev rfl)) ?_; clear hA a; intro a hA
      refine go1y hA (wanted_yes hA rfl rfl rfl) rfl rfl (r_field (hA.ev rfl) T.fo24_1) ?_; clear hA a; intro a hA
      refine go1y hA (wanted_yes hA rfl rfl rfl) rfl rfl (r_load (hA.ev rfl) T.fl3 (by first | exact hS.cell rfl | exact hS.pull1.cell rfl | exact hS.pull2.cell rfl | exact hS.pull3.cell rfl | exact hS.pull4.cell rfl)) ?_; clear hA a; intro a hA
      refine go1y hA (wanted_yes hA rfl rfl rfl) rfl rfl (r_field (hA.ev rfl) T.fo24_2) ?_; clear hA a; intro a hA
      refine go1y hA (wanted_yes hA rfl rfl rfl) rfl rfl (r_load (hA.ev rfl) T.fl3 (by first | exact hS.cell rfl | exact hS.pull1.cell rfl | exact hS.pull2.cell rfl | exact hS.pull3.cell rfl | exact hS.pull4.cell rfl)) ?_; clear hA a; intro a hA
      refine go1y hA (wanted_yes hA rfl rfl rfl) rfl rfl (as_f (r_neq (hA.ev rfl) (hA.ev rfl)) (by omega)) ?_; clear hA a; intro a hA
      refine go1 hA rfl rfl rfl (r_pick_f (hA.ev rfl) (hA.ev rfl)) ?_; clear hA a; intro a hA
      refine go1 hA rfl rfl rfl (r_move (hA.ev rfl)) ?_; clear hA a; intro a hA
      refine go1y hA (wanted_yes hA rfl rfl rfl) rfl rfl (r_field (hA.ev rfl) T.fo24_2) ?_; clear hA a; intro a hA
      refine go1y hA (wanted_yes hA rfl rfl rfl) rfl rfl (r_load (hA.ev rfl) T.fl3 (by first | exact hS.cell rfl | exact hS.pull1.cell rfl | exact hS.pull2.cell rfl | exact hS.pull3.cell rfl | exact hS.pull4.cell rfl)) ?_; clear hA a; intro a hA
      refine go1y hA (wanted_yes hA rfl rfl rfl) rfl rfl (r_field (hA.ev rfl) T.fo24_1) ?_; clear hA a; intro a hA
      refine go1y hA (wanted_yes hA rfl rfl rfl) rfl rfl (r_load (hA.ev rfl) T.fl3 (by first | exact hS.cell rfl | exact hS.pull1.cell rfl | exact hS.pull2.cell rfl | exact hS.pull3.cell rfl | exact hS.pull4.cell rfl)) ?_; clear hA a; intro a hA
      refine go1y hA (wanted_yes hA rfl rfl rfl) rfl rfl (as_f (r_neq (hA.ev rfl) (hA.ev rfl)) (by omega)) ?_; clear hA a; intro a hA
      refine go1 hA rfl rfl rfl (r_pick_f (hA.ev rfl) (hA.ev rfl)) ?_; clear hA a; intro a hA
      refine go1 hA rfl rfl rfl (r_move (hA.ev rfl)) ?_; clear hA a; intro a hA
      refine go1y hA (wanted_yes hA rfl rfl rfl) rfl rfl (r_field (hA.ev rfl) T.fo24_3) ?_; clear hA a; intro a hA
      refine go1y hA (wanted_yes hA rfl rfl rfl) rfl rfl (r_load (hA.ev rfl) T.fl3 (by first | exact hS.cell rfl | exact hS.pull1.cell rfl | exact hS.pull2.cell rfl | exact hS.pull3.cell rfl | exact hS.pull4.cell rfl)) ?_; clear hA a; intro a hA
      refine go1y hA (wanted_yes hA rfl rfl rfl) rfl rfl (as_f (r_neq (hA.ev rfl) (hA.ev rfl)) (by omega)) ?_; clear hA a; intro a hA
      refine go1 hA rfl rfl rfl (r_pick_f (hA.ev rfl) (hA.ev rfl)) ?_; clear hA a; intro a hA
      refine go1 hA rfl rfl rfl (r_move (hA.ev rfl)) ?_; clear hA a; intro a hA
      refine go1y hA (wanted_yes hA rfl rfl rfl) rfl rfl (r_field (hA.ev rfl) T.fo24_4) ?_; clear hA a; intro a hA
      refine go1y hA (wanted_yes hA rfl rfl rfl) rfl rfl (r_load (hA.ev rfl) T.fl3 (by first | exact hS.cell rfl | exact hS.pull1.cell rfl | exact hS.pull2.cell rfl | exact hS.pull3.cell rfl | exact hS.pull4.cell rfl)) ?_; clear hA a; intro a hA
      refine go1y hA (wanted_yes hA rfl rfl rfl) rfl rfl (r_field (hA.ev rfl) T.fo24_4) ?_; clear hA a; intro a hA
      refine go1y hA (wanted_yes hA rfl rfl rfl) rfl rfl (r_load (hA.ev rfl) T.fl3 (by first | exact hS.cell rfl | exact hS.pull1.cell rfl | exact hS.pull2.cell rfl | exact hS.pull3.cell rfl | exact hS.pull4.cell rfl)) ?_; clear hA a; intro a hA
      refine go1y hA (wanted_yes hA rfl rfl rfl) rfl rfl (as_f (r_neq (hA.ev rfl) (hA.ev rfl)) (by omega)) ?_; clear hA a; intro a hA
      refine go1 hA rfl rfl rfl (r_pick_f (hA.ev rfl) (hA.ev rfl)) ?_; clear hA a; intro a hA
      refine go1 hA rfl rfl rfl (r_move (hA.ev rfl)) ?_; clear hA a; intro a hA
      refine go1y hA (wanted_yes hA rfl rfl rfl) rfl rfl (r_field (hA.ev rfl) T.fo24_5) ?_; clear hA a; intro a hA
      refine go1y hA (wanted_yes hA rfl rfl rfl) rfl rfl (r_load (hA.ev rfl) T.fl22 (by first | exact hS.cell rfl | exact hS.pull1.cell rfl | exact hS.pull2.cell rfl | exact hS.pull3.cell rfl | exact hS.pull4.cell rfl)) ?_; clear hA a; intro a hA
      refine go1y hA (wanted_yes hA rfl rfl rfl) rfl rfl (r_lens (hA.ev rfl) T.un22) ?_; clear hA a; intro a hA
      refine go1y hA (wanted_yes hA rfl rfl rfl) rfl rfl (as_f (r_neq (hA.ev rfl) (hA.ev rfl)) (by omega)) ?_; clear hA a; intro a hA
      refine go1 hA rfl rfl rfl (r_pick_f (hA.ev rfl) (hA.ev rfl)) ?_; clear hA a; intro a hA
      refine go1 hA rfl rfl rfl (r_move (hA.ev rfl)) ?_; clear hA a; intro a hA
      refine go1y hA (wanted_yes hA rfl rfl rfl) rfl rfl (r_field (hA.ev rfl) T.fo24_0) ?_; clear hA a; intro a hA
      refine go1y hA (wanted_yes hA rfl rfl rfl) rfl rfl (r_load (hA.ev rfl) T.fl3 (by first | exact hS.cell rfl | exact hS.pull1.cell rfl | exact hS.pull2.cell rfl | exact hS.pull3.cell rfl | exact hS.pull4.cell rfl)) ?_; clear hA a; intro a hA
      refine go1y hA (wanted_yes hA rfl rfl rfl) rfl rfl (as_f (r_neq (hA.ev rfl) (hA.ev rfl)) (by omega)) ?_; clear hA a; intro a hA
      refine go1 hA rfl rfl rfl (r_pick_f (hA.ev rfl) (hA.ev rfl)) ?_; clear hA a; intro a hA
      refine wpList_nil ?_
      refine hk17 _ _ ?_
      clear hk17 k17
      replace hA := hA.keep (.cons (i := 2) rfl (.cons (i := 3) rfl (.cons (i := 4) rfl (.cons (i := 90) rfl .nil))))
      refine wp_cond_false (hA.ev rfl) ?_
      refine wp_skip ?_
      refine hk16 _ _ ?_
      clear hk16 k16
      replace hA := hA.keep (.cons (i := 2) rfl (.cons (i := 3) rfl (.cons (i := 4) rfl .nil)))
      refine wp_seq_k fun k18 hk18 => ?_
      refine wp_region_lit ?_
      refine go1 hA rfl rfl rfl (r_loadS (cs := [_, _, _, _, _, _]) (hA.ev rfl) T.ag24 T.sz24 (by first | exact hS.cellsAt (xs := [_, _, _, _, _, _]) rfl | exact hS.pull1.cellsAt (xs := [_, _, _, _, _, _]) rfl | exact hS.pull2.cellsAt (xs := [_, _, _, _, _, _]) rfl | exact hS.pull3.cellsAt (xs := [_, _, _, _, _, _]) rfl | exact hS.pull4.cellsAt (xs := [_, _, _, _, _, _]) rfl)) ?_; clear hA a; intro a hA
      refine goF hA rfl T.en12 rfl (AckAck_calls _ t f hi hF3) ?_
      clear hA a; rintro e w ⟨rfl, hT⟩; replace hS : Sat _ _ _ := hS.rebase hT; clear hT
      refine ⟨_, rfl, ?_⟩; intro a hA
      refine go1 hA rfl rfl rfl (r_move (hA.ev rfl)) ?_; clear hA a; intro a hA
      refine go1 hA rfl rfl rfl (r_extract (hA.ev rfl) rfl) ?_; clear hA a; intro a hA
      refine go1 hA rfl rfl rfl (r_extract (hA.ev rfl) rfl) ?_; clear hA a; intro a hA
      refine go1 hA rfl rfl rfl (r_assign (hA.ev rfl)) ?_; clear hA a; intro a hA
      refine wpList_nil ?_
      refine hk18 _ _ ?_
      clear hk18 k18
      replace hA := hA.keep (.cons (i := 2) rfl (.cons (i := 4) rfl .nil))
      refine wp_seq_k fun k19 hk19 => ?_
      refine wp_region_lit ?_
      refine go1 hA rfl rfl rfl (r_move (hA.ev rfl)) ?_; clear hA a; intro a hA
      refine go1 hA rfl rfl rfl (as_t (r_eql (hA.ev rfl) (hA.ev rfl)) (by omega)) ?_; clear hA a; intro a hA
      refine go1 hA rfl rfl rfl (r_assign (hA.ev rfl)) ?_; clear hA a; intro a hA
      refine wpList_nil ?_
      refine hk19 _ _ ?_
      clear hk19 k19
      replace hA := hA.keep (.cons (i := 2) rfl .nil)
      refine wp_ret ?_
      refine end1 hA rfl rfl ?_
      exact ⟨rfl, hS.nil⟩
end Go.Proofs.Ytfbdcllbgfohdaa.Wk
