/- The walks of barrowref18.EqualBytes, Equal, barrowlaw18.some and mail.Ack. Conditions: mails and bytes are read as data. -/
import Derived.Test.YtfbdcllbgfohdaaT
import Derived.Test.YtfbdcllbgfohdaaWkMail
set_option linter.unusedVariables false
set_option linter.unusedSimpArgs false
namespace Go.Proofs.Ytfbdcllbgfohdaa.Wm
open Go Go.RowKit Go.Proofs.Ytfbdcllbgfohdaa Go.Proofs.Ytfbdcllbgfohdaa.K
theorem byte_at {xs : List Int} {i : Nat} {x : Int} (h : xs[i]? = some x) : (xs.map (Value.int .u8))[i * 1]? = some (.int .u8 x) := by
  rw [Nat.mul_one, List.getElem?_map, h]; rfl
def Bodies (W : World) (ps : List PartD) : Prop := ∀ p ∈ ps, Rd W 1 (.slice p.A p.b.length p.c) p.b.length (p.b.map (Value.int .u8)) ∧ p.b.length ≤ 140737488355328
theorem Bodies.sat {W w : World} {L : List As} {ps : List PartD} (h : Bodies W ps) (s : Sat W w L) : Bodies w ps := fun p hp => ⟨(h p hp).1.sat s, (h p hp).2⟩
def key (p : PartD) : Int × List Int := (p.cart, p.b)
def Same (ps qs : List PartD) : Prop := ps.map key = qs.map key
theorem rd_none (W : World) (sz : Nat) : Rd W sz (.slice none 0 0) 0 [] := ⟨none, 0, rfl, Nat.le_refl _, by simp, .inl rfl⟩
set_option maxRecDepth 100000 in
theorem EqualBytes_calls (W : World) (A : Option Addr) (c : Nat) (xs : List Int) (A2 : Option Addr) (c2 : Nat) (ys : List Int) (hX : Rd W 1 (.slice A xs.length c) xs.length (xs.map (Value.int .u8))) (hY : Rd W 1 (.slice A2 ys.length c2) ys.length (ys.map (Value.int .u8))) (hx : xs.length ≤ 140737488355328) (hy : ys.length ≤ 140737488355328) : Calls Try.prog 23 #[.slice A xs.length c, .slice A2 ys.length c2] W fun e w' => e = .returned (.bool (decide (xs = ys))) ∧ Sat W w' [] := by
  refine enter Try.func23 rfl rfl rfl (.cons (i := 0) rfl (.cons (i := 1) rfl .nil)) ?_
  intro a hA
  have hS := Sat.start W
  refine wp_seq_k fun k1 hk1 => ?_
  refine wp_region_lit ?_
  refine go1 hA rfl rfl rfl (r_assign (hA.ev rfl)) ?_; clear hA a; intro a hA
  refine wpList_nil ?_
  refine hk1 _ _ ?_
  clear hk1 k1
  refine wp_seq_k fun k2 hk2 => ?_
  refine wp_seq_k fun k3 hk3 => ?_
  refine wp_region_lit ?_
  refine go1 hA rfl rfl rfl (r_move (hA.ev rfl)) ?_; clear hA a; intro a hA
  refine go1 hA rfl rfl rfl (r_lens (hA.ev rfl) T.un34) ?_; clear hA a; intro a hA
  refine go1 hA rfl rfl rfl (r_move (hA.ev rfl)) ?_; clear hA a; intro a hA
  refine go1 hA rfl rfl rfl (r_lens (hA.ev rfl) T.un34) ?_; clear hA a; intro a hA
  refine go1s hA rfl rfl rfl (r_neq (hA.ev rfl) (hA.ev rfl)) ?_ ?_
  · clear hA a; intro h10 a hA
    refine wpList_nil ?_
    refine hk3 _ _ ?_
    clear hk3 k3
    replace hA := hA.keep (.cons (i := 0) rfl (.cons (i := 1) rfl (.cons (i := 4) rfl (.cons (i := 10) rfl .nil))))
    refine wp_cond_true (hA.ev rfl) ?_
    refine wp_seq_k fun k4 hk4 => ?_
    refine wp_region_lit ?_
    refine go1 hA rfl rfl rfl (r_assign (hA.ev rfl)) ?_; clear hA a; intro a hA
    refine wpList_nil ?_
    refine hk4 _ _ ?_
    clear hk4 k4
    replace hA := hA.keep (.cons (i := 0) rfl (.cons (i := 1) rfl (.cons (i := 4) rfl .nil)))
    refine wp_ret ?_
    refine then_ret ?_; clear hk2 k2
    refine end1 hA rfl rfl ?_
    rw [show decide (xs = ys) = false from decide_eq_false (fun h => by subst h; omega)]
    exact ⟨rfl, hS⟩
  · clear hA a; intro h10 a hA
    refine wpList_nil ?_
    refine hk3 _ _ ?_
    clear hk3 k3
    replace hA := hA.keep (.cons (i := 0) rfl (.cons (i := 1) rfl (.cons (i := 4) rfl (.cons (i := 10) rfl .nil))))
    refine wp_cond_false (hA.ev rfl) ?_
    refine wp_skip ?_
    refine hk2 _ _ ?_
    clear hk2 k2
    replace hA := hA.keep (.cons (i := 0) rfl (.cons (i := 1) rfl (.cons (i := 4) rfl .nil)))
    refine wp_seq_k fun k5 hk5 => ?_
    refine wp_seq_k fun k6 hk6 => ?_
    refine wp_region_lit ?_
    refine go1 hA rfl rfl rfl (r_assign (hA.ev rfl)) ?_; clear hA a; intro a hA
    refine wpList_nil ?_
    refine hk6 _ _ ?_
    clear hk6 k6
    refine wp_block ?_
    refine wp_loop_ghost (fun (mm : Nat) a w => ∃ i : Int, Ag a 26 [(0, .slice A xs.length c), (1, .slice A2 ys.length c2), (5, .int .i64 i)] ∧ Sat W w [] ∧ 0 ≤ i ∧ i ≤ xs.length ∧ mm = (xs.length - i).toNat ∧ ∀ j : Nat, (j : Int) < i → xs[j]? = ys[j]?) xs.length ?_ ?_
    · replace hA := hA.keep (.cons (i := 0) rfl (.cons (i := 1) rfl (.cons (i := 5) rfl .nil)))
      exact ⟨0, hA, hS, by omega, by omega, by omega, fun j hj => by omega⟩
    intro m a w hI
    obtain ⟨i, hA, hS, hi0, hi1, rfl, hG⟩ := hI
    refine wp_seq_k fun k7 hk7 => ?_
    refine wp_seq_k fun k8 hk8 => ?_
    refine wp_region_lit ?_
    refine go1 hA rfl rfl rfl (r_move (hA.ev rfl)) ?_; clear hA a; intro a hA
    refine go1 hA rfl rfl rfl (r_move (hA.ev rfl)) ?_; clear hA a; intro a hA
    refine go1 hA rfl rfl rfl (r_lens (hA.ev rfl) T.un34) ?_; clear hA a; intro a hA
    refine go1s hA rfl rfl rfl (r_lss (hA.ev rfl) (hA.ev rfl)) ?_ ?_
    · clear hA a; intro h14 a hA
      obtain ⟨p0, rfl⟩ : ∃ p, A = some p := hX.hasAddr (by omega)
      obtain ⟨q0, rfl⟩ : ∃ p, A2 = some p := hY.hasAddr (by omega)
      obtain ⟨x, hxi⟩ : ∃ x, xs[i.toNat]? = some x := ⟨_, List.getElem?_eq_getElem (by omega)⟩
      obtain ⟨y, hyi⟩ : ∃ y, ys[i.toNat]? = some y := ⟨_, List.getElem?_eq_getElem (by omega)⟩
      refine wpList_nil ?_
      refine hk8 _ _ ?_
      clear hk8 k8
      refine wp_cond_true (hA.ev rfl) ?_
      refine wp_skip ?_
      refine hk7 _ _ ?_
      clear hk7 k7
      refine wp_seq_k fun k9 hk9 => ?_
      refine wp_block ?_
      refine wp_seq_k fun k10 hk10 => ?_
      refine qEnter (fun w' => Sat _ w' _) (by kernel_rfl) (by kernel_rfl) hS.drew ?_
      refine K.q1 hA rfl rfl rfl (fun w hS => (r_move (hA.ev rfl))) ?_; clear hA a; intro a hA
      refine K.q1 hA rfl rfl rfl (fun w hS => (r_move (hA.ev rfl))) ?_; clear hA a; intro a hA
      refine K.q1 hA rfl rfl rfl (fun w hS => (r_index (hA.ev rfl) (hA.ev rfl) T.un34 T.sz5 (by omega) (by omega))) ?_; clear hA a; intro a hA
      refine K.q1 hA rfl rfl rfl (fun w hS => (r_load (hA.ev rfl) T.fl5 ((hX.sat hS).cell (byte_at hxi)))) ?_; clear hA a; intro a hA
      refine K.q1 hA rfl rfl rfl (fun w hS => (r_move (hA.ev rfl))) ?_; clear hA a; intro a hA
      refine K.q1 hA rfl rfl rfl (fun w hS => (r_move (hA.ev rfl))) ?_; clear hA a; intro a hA
      refine K.q1 hA rfl rfl rfl (fun w hS => (r_index (hA.ev rfl) (hA.ev rfl) T.un34 T.sz5 (by omega) (by omega))) ?_; clear hA a; intro a hA
      refine K.q1 hA rfl rfl rfl (fun w hS => (r_load (hA.ev rfl) T.fl5 ((hY.sat hS).cell (byte_at hyi)))) ?_; clear hA a; intro a hA
      refine K.q1s hA rfl rfl rfl (fun w hS => (r_neq (hA.ev rfl) (hA.ev rfl))) ?_ ?_
      · clear hA a; intro h25 a hA
        refine wpQuiet_nil ?_
        clear hS; intro w hS
        refine hk10 _ _ ?_
        clear hk10 k10
        refine wp_cond_true (hA.ev rfl) ?_
        refine wp_seq_k fun k11 hk11 => ?_
        refine wp_region_lit ?_
        refine go1 hA rfl rfl rfl (r_assign (hA.ev rfl)) ?_; clear hA a; intro a hA
        refine wpList_nil ?_
        refine hk11 _ _ ?_
        clear hk11 k11
        refine wp_ret ?_
        refine block_ret ?_
        refine then_ret ?_; clear hk9 k9
        refine then_ret ?_
        refine block_ret ?_
        refine then_ret ?_; clear hk5 k5
        refine end1 hA rfl rfl ?_
        rw [show decide (xs = ys) = false from decide_eq_false (fun h => by subst h; rw [hxi] at hyi; cases hyi; omega)]
        exact ⟨rfl, hS⟩
      · clear hA a; intro h25 a hA
        refine wpQuiet_nil ?_
        clear hS; intro w hS
        refine hk10 _ _ ?_
        clear hk10 k10
        refine wp_cond_false (hA.ev rfl) ?_
        refine wp_skip ?_
        refine block_normal ?_
        refine hk9 _ _ ?_
        clear hk9 k9
        refine wp_region_lit ?_
        refine go1 hA rfl rfl rfl (r_move (hA.ev rfl)) ?_; clear hA a; intro a hA
        refine go1 hA rfl rfl rfl (r_add64 (hA.ev rfl) (hA.ev rfl) (by omega) (by omega)) ?_; clear hA a; intro a hA
        refine go1 hA rfl rfl rfl (r_assign (hA.ev rfl)) ?_; clear hA a; intro a hA
        refine wpList_nil ?_
        replace hA := hA.keep (.cons (i := 0) rfl (.cons (i := 1) rfl (.cons (i := 5) rfl .nil)))
        refine ⟨(xs.length - (i + 1)).toNat, by omega, i + 1, hA, hS, by omega, by omega, rfl, fun j hj => ?_⟩
        by_cases hji : (j : Int) < i
        · exact hG j hji
        · obtain rfl : j = i.toNat := by omega
          rw [hxi, hyi, show x = y from by omega]
    · clear hA a; intro h14 a hA
      refine wpList_nil ?_
      refine hk8 _ _ ?_
      clear hk8 k8
      refine wp_cond_false (hA.ev rfl) ?_
      refine wp_exit ?_
      refine then_exit ?_; clear hk7 k7
      refine then_exit ?_
      refine block_hit ?_
      refine hk5 _ _ ?_
      clear hk5 k5
      replace hA := hA.keep .nil
      refine wp_seq_k fun k12 hk12 => ?_
      refine wp_region_lit ?_
      refine go1 hA rfl rfl rfl (r_assign (hA.ev rfl)) ?_; clear hA a; intro a hA
      refine wpList_nil ?_
      refine hk12 _ _ ?_
      clear hk12 k12
      refine wp_ret ?_
      refine end1 hA rfl rfl ?_
      have hE : xs = ys := by
        refine List.ext_getElem? fun j => ?_
        by_cases hj : (j : Int) < i
        · exact hG j hj
        · rw [List.getElem?_eq_none (by omega), List.getElem?_eq_none (by omega)]
      rw [show decide (xs = ys) = true from decide_eq_true hE]
      exact ⟨rfl, hS⟩
set_option maxRecDepth 100000 in
theorem Equal_calls (W : World) (k f t lo hi : Int) (A : Option Addr) (c : Nat) (ps : List PartD) (k2 f2 t2 lo2 hi2 : Int) (A2 : Option Addr) (c2 : Nat) (qs : List PartD) (hR : Rd W 2 (.slice A ps.length c) ps.length (ps.flatMap encP)) (hlen : ps.length ≤ 140737488355328) (hR2 : Rd W 2 (.slice A2 qs.length c2) qs.length (qs.flatMap encP)) (hlen2 : qs.length ≤ 140737488355328) (hB : Bodies W ps) (hB2 : Bodies W qs) : Calls Try.prog 15 #[.agg #[.int .i64 k, .int .i64 f, .int .i64 t, .int .i64 lo, .int .i64 hi, .slice A ps.length c], .agg #[.int .i64 k2, .int .i64 f2, .int .i64 t2, .int .i64 lo2, .int .i64 hi2, .slice A2 qs.length c2]] W fun e w' => ∃ b, e = .returned (.bool b) ∧ (b = true ↔ k = k2 ∧ f = f2 ∧ t = t2 ∧ lo = lo2 ∧ hi = hi2 ∧ Same ps qs) ∧ Sat W w' [] := by
  refine enter Try.func15 rfl rfl rfl (.cons (i := 0) rfl (.cons (i := 1) rfl .nil)) ?_
  intro a hA
  have hS := Sat.start W
  refine wp_seq_k fun k1 hk1 => ?_
  refine wp_region_lit ?_
  refine goB hA rfl rfl hS ?_
  clear hA a hS; intro b2 w hS a hA
  refine goB hA rfl rfl hS ?_
  clear hA a hS; intro b3 w hS a hA
  refine go1 hA rfl rfl rfl (r_assign (hA.ev rfl)) ?_; clear hA a; intro a hA
  refine wpList_nil ?_
  refine hk1 _ _ ?_
  clear hk1 k1
  replace hA := hA.keep (.cons (i := 2) rfl (.cons (i := 3) rfl (.cons (i := 4) rfl .nil)))
  refine wp_seq_k fun k2 hk2 => ?_
  refine wp_seq_k fun k3 hk3 => ?_
  refine wp_region_lit ?_
  refine go1 hA rfl rfl rfl (r_field (hA.ev rfl) T.fo24_0) ?_; clear hA a; intro a hA
  refine go1 hA rfl rfl rfl (r_load (hA.ev rfl) T.fl3 (by first | exact hS.cell rfl | exact (hS.p 1).cell rfl)) ?_; clear hA a; intro a hA
  refine go1 hA rfl rfl rfl (r_field (hA.ev rfl) T.fo24_0) ?_; clear hA a; intro a hA
  refine go1 hA rfl rfl rfl (r_load (hA.ev rfl) T.fl3 (by first | exact hS.cell rfl | exact (hS.p 1).cell rfl)) ?_; clear hA a; intro a hA
  refine go1s hA rfl rfl rfl (r_neq (hA.ev rfl) (hA.ev rfl)) ?_ ?_
  · clear hA a; intro h10 a hA
    refine go1 hA rfl rfl rfl (r_move (hA.ev rfl)) ?_; clear hA a; intro a hA
    refine goS hA (wanted_no hA rfl rfl rfl rfl) rfl rfl ?_; clear hA a; intro a hA
    refine goS hA (wanted_no hA rfl rfl rfl rfl) rfl rfl ?_; clear hA a; intro a hA
    refine goS hA (wanted_no hA rfl rfl rfl rfl) rfl rfl ?_; clear hA a; intro a hA
    refine goS hA (wanted_no hA rfl rfl rfl rfl) rfl rfl ?_; clear hA a; intro a hA
    refine goS hA (wanted_no hA rfl rfl rfl rfl) rfl rfl ?_; clear hA a; intro a hA
    refine go1 hA rfl rfl rfl (r_pick_t (hA.ev rfl) (hA.ev rfl)) ?_; clear hA a; intro a hA
    refine go1 hA rfl rfl rfl (r_move (hA.ev rfl)) ?_; clear hA a; intro a hA
    refine goS hA (wanted_no hA rfl rfl rfl rfl) rfl rfl ?_; clear hA a; intro a hA
    refine goS hA (wanted_no hA rfl rfl rfl rfl) rfl rfl ?_; clear hA a; intro a hA
    refine goS hA (wanted_no hA rfl rfl rfl rfl) rfl rfl ?_; clear hA a; intro a hA
    refine goS hA (wanted_no hA rfl rfl rfl rfl) rfl rfl ?_; clear hA a; intro a hA
    refine goS hA (wanted_no hA rfl rfl rfl rfl) rfl rfl ?_; clear hA a; intro a hA
    refine go1 hA rfl rfl rfl (r_pick_t (hA.ev rfl) (hA.ev rfl)) ?_; clear hA a; intro a hA
    refine go1 hA rfl rfl rfl (r_move (hA.ev rfl)) ?_; clear hA a; intro a hA
    refine goS hA (wanted_no hA rfl rfl rfl rfl) rfl rfl ?_; clear hA a; intro a hA
    refine goS hA (wanted_no hA rfl rfl rfl rfl) rfl rfl ?_; clear hA a; intro a hA
    refine goS hA (wanted_no hA rfl rfl rfl rfl) rfl rfl ?_; clear hA a; intro a hA
    refine goS hA (wanted_no hA rfl rfl rfl rfl) rfl rfl ?_; clear hA a; intro a hA
    refine goS hA (wanted_no hA rfl rfl rfl rfl) rfl rfl ?_; clear hA a; intro a hA
    refine go1 hA rfl rfl rfl (r_pick_t (hA.ev rfl) (hA.ev rfl)) ?_; clear hA a; intro a hA
    refine go1 hA rfl rfl rfl (r_move (hA.ev rfl)) ?_; clear hA a; intro a hA
    refine goS hA (wanted_no hA rfl rfl rfl rfl) rfl rfl ?_; clear hA a; intro a hA
    refine goS hA (wanted_no hA rfl rfl rfl rfl) rfl rfl ?_; clear hA a; intro a hA
    refine goS hA (wanted_no hA rfl rfl rfl rfl) rfl rfl ?_; clear hA a; intro a hA
    refine goS hA (wanted_no hA rfl rfl rfl rfl) rfl rfl ?_; clear hA a; intro a hA
    refine goS hA (wanted_no hA rfl rfl rfl rfl) rfl rfl ?_; clear hA a; intro a hA
    refine go1 hA rfl rfl rfl (r_pick_t (hA.ev rfl) (hA.ev rfl)) ?_; clear hA a; intro a hA
    refine go1 hA rfl rfl rfl (r_move (hA.ev rfl)) ?_; clear hA a; intro a hA
    refine goS hA (wanted_no hA rfl rfl rfl rfl) rfl rfl ?_; clear hA a; intro a hA
    refine goS hA (wanted_no hA rfl rfl rfl rfl) rfl rfl ?_; clear hA a; intro a hA
    refine goS hA (wanted_no hA rfl rfl rfl rfl) rfl rfl ?_; clear hA a; intro a hA
    refine goS hA (wanted_no hA rfl rfl rfl rfl) rfl rfl ?_; clear hA a; intro a hA
    refine goS hA (wanted_no hA rfl rfl rfl rfl) rfl rfl ?_; clear hA a; intro a hA
    refine goS hA (wanted_no hA rfl rfl rfl rfl) rfl rfl ?_; clear hA a; intro a hA
    refine goS hA (wanted_no hA rfl rfl rfl rfl) rfl rfl ?_; clear hA a; intro a hA
    refine go1 hA rfl rfl rfl (r_pick_t (hA.ev rfl) (hA.ev rfl)) ?_; clear hA a; intro a hA
    refine wpList_nil ?_
    refine hk3 _ _ ?_
    clear hk3 k3
    replace hA := hA.keep (.cons (i := 2) rfl (.cons (i := 3) rfl (.cons (i := 4) rfl (.cons (i := 47) rfl .nil))))
    refine wp_cond_true (hA.ev rfl) ?_
    refine wp_seq_k fun k4 hk4 => ?_
    refine wp_region_lit ?_
    refine go1 hA rfl rfl rfl (r_assign (hA.ev rfl)) ?_; clear hA a; intro a hA
    refine wpList_nil ?_
    refine hk4 _ _ ?_
    clear hk4 k4
    replace hA := hA.keep (.cons (i := 2) rfl (.cons (i := 3) rfl (.cons (i := 4) rfl .nil)))
    refine wp_ret ?_
    refine then_ret ?_; clear hk2 k2
    refine end1 hA rfl rfl ?_
    first | (refine ⟨_, rfl, ⟨(fun h => by cases h), (fun h => ?_)⟩, hS.nil⟩; obtain ⟨e1, e2, e3, e4, e5, e6⟩ := h; have e7 := congrArg List.length e6; simp only [List.length_map] at e7; omega) | (refine ⟨_, rfl, ⟨(fun h => by cases h), (fun h => ?_)⟩, hS.nil⟩; obtain ⟨e1, e2, e3, e4, e5, e6⟩ := h; have e7 := congrArg (fun l => l[i.toNat]?) e6; simp only [List.getElem?_map, hp, hq, Option.map_some, Option.some.injEq, key, Prod.mk.injEq] at e7; first | omega | simp_all) | (refine ⟨_, rfl, ⟨(fun _ => ⟨by omega, by omega, by omega, by omega, by omega, ?_⟩), (fun _ => rfl)⟩, hS.nil⟩; refine List.ext_getElem? fun j => ?_; rw [List.getElem?_map, List.getElem?_map]; by_cases hj : (j : Int) < i; exact hG j hj; rw [List.getElem?_eq_none (by omega), List.getElem?_eq_none (by omega)])
  · clear hA a; intro h10 a hA
    refine go1 hA rfl rfl rfl (r_move (hA.ev rfl)) ?_; clear hA a; intro a hA
    refine go1y hA (wanted_yes hA rfl rfl rfl) rfl rfl (r_field (hA.ev rfl) T.fo24_1) ?_; clear hA a; intro a hA
    refine go1y hA (wanted_yes hA rfl rfl rfl) rfl rfl (r_load (hA.ev rfl) T.fl3 (by first | exact hS.cell rfl | exact (hS.p 1).cell rfl)) ?_; clear hA a; intro a hA
    refine go1y hA (wanted_yes hA rfl rfl rfl) rfl rfl (r_field (hA.ev rfl) T.fo24_1) ?_; clear hA a; intro a hA
    refine go1y hA (wanted_yes hA rfl rfl rfl) rfl rfl (r_load (hA.ev rfl) T.fl3 (by first | exact hS.cell rfl | exact (hS.p 1).cell rfl)) ?_; clear hA a; intro a hA
    refine go1sy hA (wanted_yes hA rfl rfl rfl) rfl rfl (r_neq (hA.ev rfl) (hA.ev rfl)) ?_ ?_
    · clear hA a; intro h16 a hA
      refine go1 hA rfl rfl rfl (r_pick_f (hA.ev rfl) (hA.ev rfl)) ?_; clear hA a; intro a hA
      refine go1 hA rfl rfl rfl (r_move (hA.ev rfl)) ?_; clear hA a; intro a hA
      refine goS hA (wanted_no hA rfl rfl rfl rfl) rfl rfl ?_; clear hA a; intro a hA
      refine goS hA (wanted_no hA rfl rfl rfl rfl) rfl rfl ?_; clear hA a; intro a hA
      refine goS hA (wanted_no hA rfl rfl rfl rfl) rfl rfl ?_; clear hA a; intro a hA
      refine goS hA (wanted_no hA rfl rfl rfl rfl) rfl rfl ?_; clear hA a; intro a hA
      refine goS hA (wanted_no hA rfl rfl rfl rfl) rfl rfl ?_; clear hA a; intro a hA
      refine go1 hA rfl rfl rfl (r_pick_t (hA.ev rfl) (hA.ev rfl)) ?_; clear hA a; intro a hA
      refine go1 hA rfl rfl rfl (r_move (hA.ev rfl)) ?_; clear hA a; intro a hA
      refine goS hA (wanted_no hA rfl rfl rfl rfl) rfl rfl ?_; clear hA a; intro a hA
      refine goS hA (wanted_no hA rfl rfl rfl rfl) rfl rfl ?_; clear hA a; intro a hA
      refine goS hA (wanted_no hA rfl rfl rfl rfl) rfl rfl ?_; clear hA a; intro a hA
      refine goS hA (wanted_no hA rfl rfl rfl rfl) rfl rfl ?_; clear hA a; intro a hA
      refine goS hA (wanted_no hA rfl rfl rfl rfl) rfl rfl ?_; clear hA a; intro a hA
      refine go1 hA rfl rfl rfl (r_pick_t (hA.ev rfl) (hA.ev rfl)) ?_; clear hA a; intro a hA
      refine go1 hA rfl rfl rfl (r_move (hA.ev rfl)) ?_; clear hA a; intro a hA
      refine goS hA (wanted_no hA rfl rfl rfl rfl) rfl rfl ?_; clear hA a; intro a hA
      refine goS hA (wanted_no hA rfl rfl rfl rfl) rfl rfl ?_; clear hA a; intro a hA
      refine goS hA (wanted_no hA rfl rfl rfl rfl) rfl rfl ?_; clear hA a; intro a hA
      refine goS hA (wanted_no hA rfl rfl rfl rfl) rfl rfl ?_; clear hA a; intro a hA
      refine goS hA (wanted_no hA rfl rfl rfl rfl) rfl rfl ?_; clear hA a; intro a hA
      refine go1 hA rfl rfl rfl (r_pick_t (hA.ev rfl) (hA.ev rfl)) ?_; clear hA a; intro a hA
      refine go1 hA rfl rfl rfl (r_move (hA.ev rfl)) ?_; clear hA a; intro a hA
      refine goS hA (wanted_no hA rfl rfl rfl rfl) rfl rfl ?_; clear hA a; intro a hA
      refine goS hA (wanted_no hA rfl rfl rfl rfl) rfl rfl ?_; clear hA a; intro a hA
      refine goS hA (wanted_no hA rfl rfl rfl rfl) rfl rfl ?_; clear hA a; intro a hA
      refine goS hA (wanted_no hA rfl rfl rfl rfl) rfl rfl ?_; clear hA a; intro a hA
      refine goS hA (wanted_no hA rfl rfl rfl rfl) rfl rfl ?_; clear hA a; intro a hA
      refine goS hA (wanted_no hA rfl rfl rfl rfl) rfl rfl ?_; clear hA a; intro a hA
      refine goS hA (wanted_no hA rfl rfl rfl rfl) rfl rfl ?_; clear hA a; intro a hA
      refine go1 hA rfl rfl rfl (r_pick_t (hA.ev rfl) (hA.ev rfl)) ?_; clear hA a; intro a hA
      refine wpList_nil ?_
      refine hk3 _ _ ?_
      clear hk3 k3
      replace hA := hA.keep (.cons (i := 2) rfl (.cons (i := 3) rfl (.cons (i := 4) rfl (.cons (i := 47) rfl .nil))))
      refine wp_cond_true (hA.ev rfl) ?_
      refine wp_seq_k fun k5 hk5 => ?_
      refine wp_region_lit ?_
      refine go1 hA rfl rfl rfl (r_assign (hA.ev rfl)) ?_; clear hA a; intro a hA
      refine wpList_nil ?_
      refine hk5 _ _ ?_
      clear hk5 k5
      replace hA := hA.keep (.cons (i := 2) rfl (.cons (i := 3) rfl (.cons (i := 4) rfl .nil)))
      refine wp_ret ?_
      refine then_ret ?_; clear hk2 k2
      refine end1 hA rfl rfl ?_
      first | (refine ⟨_, rfl, ⟨(fun h => by cases h), (fun h => ?_)⟩, hS.nil⟩; obtain ⟨e1, e2, e3, e4, e5, e6⟩ := h; have e7 := congrArg List.length e6; simp only [List.length_map] at e7; omega) | (refine ⟨_, rfl, ⟨(fun h => by cases h), (fun h => ?_)⟩, hS.nil⟩; obtain ⟨e1, e2, e3, e4, e5, e6⟩ := h; have e7 := congrArg (fun l => l[i.toNat]?) e6; simp only [List.getElem?_map, hp, hq, Option.map_some, Option.some.injEq, key, Prod.mk.injEq] at e7; first | omega | simp_all) | (refine ⟨_, rfl, ⟨(fun _ => ⟨by omega, by omega, by omega, by omega, by omega, ?_⟩), (fun _ => rfl)⟩, hS.nil⟩; refine List.ext_getElem? fun j => ?_; rw [List.getElem?_map, List.getElem?_map]; by_cases hj : (j : Int) < i; exact hG j hj; rw [List.getElem?_eq_none (by omega), List.getElem?_eq_none (by omega)])
    · clear hA a; intro h16 a hA
      refine go1 hA rfl rfl rfl (r_pick_f (hA.ev rfl) (hA.ev rfl)) ?_; clear hA a; intro a hA
      refine go1 hA rfl rfl rfl (r_move (hA.ev rfl)) ?_; clear hA a; intro a hA
      refine go1y hA (wanted_yes hA rfl rfl rfl) rfl rfl (r_field (hA.ev rfl) T.fo24_2) ?_; clear hA a; intro a hA
      refine go1y hA (wanted_yes hA rfl rfl rfl) rfl rfl (r_load (hA.ev rfl) T.fl3 (by first | exact hS.cell rfl | exact (hS.p 1).cell rfl)) ?_; clear hA a; intro a hA
      refine go1y hA (wanted_yes hA rfl rfl rfl) rfl rfl (r_field (hA.ev rfl) T.fo24_2) ?_; clear hA a; intro a hA
      refine go1y hA (wanted_yes hA rfl rfl rfl) rfl rfl (r_load (hA.ev rfl) T.fl3 (by first | exact hS.cell rfl | exact (hS.p 1).cell rfl)) ?_; clear hA a; intro a hA
      refine go1sy hA (wanted_yes hA rfl rfl rfl) rfl rfl (r_neq (hA.ev rfl) (hA.ev rfl)) ?_ ?_
      · clear hA a; intro h23 a hA
        refine go1 hA rfl rfl rfl (r_pick_f (hA.ev rfl) (hA.ev rfl)) ?_; clear hA a; intro a hA
        refine go1 hA rfl rfl rfl (r_move (hA.ev rfl)) ?_; clear hA a; intro a hA
        refine goS hA (wanted_no hA rfl rfl rfl rfl) rfl rfl ?_; clear hA a; intro a hA
        refine goS hA (wanted_no hA rfl rfl rfl rfl) rfl rfl ?_; clear hA a; intro a hA
        refine goS hA (wanted_no hA rfl rfl rfl rfl) rfl rfl ?_; clear hA a; intro a hA
        refine goS hA (wanted_no hA rfl rfl rfl rfl) rfl rfl ?_; clear hA a; intro a hA
        refine goS hA (wanted_no hA rfl rfl rfl rfl) rfl rfl ?_; clear hA a; intro a hA
        refine go1 hA rfl rfl rfl (r_pick_t (hA.ev rfl) (hA.ev rfl)) ?_; clear hA a; intro a hA
        refine go1 hA rfl rfl rfl (r_move (hA.ev rfl)) ?_; clear hA a; intro a hA
        refine goS hA (wanted_no hA rfl rfl rfl rfl) rfl rfl ?_; clear hA a; intro a hA
        refine goS hA (wanted_no hA rfl rfl rfl rfl) rfl rfl ?_; clear hA a; intro a hA
        refine goS hA (wanted_no hA rfl rfl rfl rfl) rfl rfl ?_; clear hA a; intro a hA
        refine goS hA (wanted_no hA rfl rfl rfl rfl) rfl rfl ?_; clear hA a; intro a hA
        refine goS hA (wanted_no hA rfl rfl rfl rfl) rfl rfl ?_; clear hA a; intro a hA
        refine go1 hA rfl rfl rfl (r_pick_t (hA.ev rfl) (hA.ev rfl)) ?_; clear hA a; intro a hA
        refine go1 hA rfl rfl rfl (r_move (hA.ev rfl)) ?_; clear hA a; intro a hA
        refine goS hA (wanted_no hA rfl rfl rfl rfl) rfl rfl ?_; clear hA a; intro a hA
        refine goS hA (wanted_no hA rfl rfl rfl rfl) rfl rfl ?_; clear hA a; intro a hA
        refine goS hA (wanted_no hA rfl rfl rfl rfl) rfl rfl ?_; clear hA a; intro a hA
        refine goS hA (wanted_no hA rfl rfl rfl rfl) rfl rfl ?_; clear hA a; intro a hA
        refine goS hA (wanted_no hA rfl rfl rfl rfl) rfl rfl ?_; clear hA a; intro a hA
        refine goS hA (wanted_no hA rfl rfl rfl rfl) rfl rfl ?_; clear hA a; intro a hA
        refine goS hA (wanted_no hA rfl rfl rfl rfl) rfl rfl ?_; clear hA a; intro a hA
        refine go1 hA rfl rfl rfl (r_pick_t (hA.ev rfl) (hA.ev rfl)) ?_; clear hA a; intro a hA
        refine wpList_nil ?_
        refine hk3 _ _ ?_
        clear hk3 k3
        replace hA := hA.keep (.cons (i := 2) rfl (.cons (i := 3) rfl (.cons (i := 4) rfl (.cons (i := 47) rfl .nil))))
        refine wp_cond_true (hA.ev rfl) ?_
        refine wp_seq_k fun k6 hk6 => ?_
        refine wp_region_lit ?_
        refine go1 hA rfl rfl rfl (r_assign (hA.ev rfl)) ?_; clear hA a; intro a hA
        refine wpList_nil ?_
        refine hk6 _ _ ?_
        clear hk6 k6
        replace hA := hA.keep (.cons (i := 2) rfl (.cons (i := 3) rfl (.cons (i := 4) rfl .nil)))
        refine wp_ret ?_
        refine then_ret ?_; clear hk2 k2
        refine end1 hA rfl rfl ?_
        first | (refine ⟨_, rfl, ⟨(fun h => by cases h), (fun h => ?_)⟩, hS.nil⟩; obtain ⟨e1, e2, e3, e4, e5, e6⟩ := h; have e7 := congrArg List.length e6; simp only [List.length_map] at e7; omega) | (refine ⟨_, rfl, ⟨(fun h => by cases h), (fun h => ?_)⟩, hS.nil⟩; obtain ⟨e1, e2, e3, e4, e5, e6⟩ := h; have e7 := congrArg (fun l => l[i.toNat]?) e6; simp only [List.getElem?_map, hp, hq, Option.map_some, Option.some.injEq, key, Prod.mk.injEq] at e7; first | omega | simp_all) | (refine ⟨_, rfl, ⟨(fun _ => ⟨by omega, by omega, by omega, by omega, by omega, ?_⟩), (fun _ => rfl)⟩, hS.nil⟩; refine List.ext_getElem? fun j => ?_; rw [List.getElem?_map, List.getElem?_map]; by_cases hj : (j : Int) < i; exact hG j hj; rw [List.getElem?_eq_none (by omega), List.getElem?_eq_none (by omega)])
      · clear hA a; intro h23 a hA
        refine go1 hA rfl rfl rfl (r_pick_f (hA.ev rfl) (hA.ev rfl)) ?_; clear hA a; intro a hA
        refine go1 hA rfl rfl rfl (r_move (hA.ev rfl)) ?_; clear hA a; intro a hA
        refine go1y hA (wanted_yes hA rfl rfl rfl) rfl rfl (r_field (hA.ev rfl) T.fo24_3) ?_; clear hA a; intro a hA
        refine go1y hA (wanted_yes hA rfl rfl rfl) rfl rfl (r_load (hA.ev rfl) T.fl3 (by first | exact hS.cell rfl | exact (hS.p 1).cell rfl)) ?_; clear hA a; intro a hA
        refine go1y hA (wanted_yes hA rfl rfl rfl) rfl rfl (r_field (hA.ev rfl) T.fo24_3) ?_; clear hA a; intro a hA
        refine go1y hA (wanted_yes hA rfl rfl rfl) rfl rfl (r_load (hA.ev rfl) T.fl3 (by first | exact hS.cell rfl | exact (hS.p 1).cell rfl)) ?_; clear hA a; intro a hA
        refine go1sy hA (wanted_yes hA rfl rfl rfl) rfl rfl (r_neq (hA.ev rfl) (hA.ev rfl)) ?_ ?_
        · clear hA a; intro h30 a hA
          refine go1 hA rfl rfl rfl (r_pick_f (hA.ev rfl) (hA.ev rfl)) ?_; clear hA a; intro a hA
          refine go1 hA rfl rfl rfl (r_move (hA.ev rfl)) ?_; clear hA a; intro a hA
          refine goS hA (wanted_no hA rfl rfl rfl rfl) rfl rfl ?_; clear hA a; intro a hA
          refine goS hA (wanted_no hA rfl rfl rfl rfl) rfl rfl ?_; clear hA a; intro a hA
          refine goS hA (wanted_no hA rfl rfl rfl rfl) rfl rfl ?_; clear hA a; intro a hA
          refine goS hA (wanted_no hA rfl rfl rfl rfl) rfl rfl ?_; clear hA a; intro a hA
          refine goS hA (wanted_no hA rfl rfl rfl rfl) rfl rfl ?_; clear hA a; intro a hA
          refine go1 hA rfl rfl rfl (r_pick_t (hA.ev rfl) (hA.ev rfl)) ?_; clear hA a; intro a hA
          refine go1 hA rfl rfl rfl (r_move (hA.ev rfl)) ?_; clear hA a; intro a hA
          refine goS hA (wanted_no hA rfl rfl rfl rfl) rfl rfl ?_; clear hA a; intro a hA
          refine goS hA (wanted_no hA rfl rfl rfl rfl) rfl rfl ?_; clear hA a; intro a hA
          refine goS hA (wanted_no hA rfl rfl rfl rfl) rfl rfl ?_; clear hA a; intro a hA
          refine goS hA (wanted_no hA rfl rfl rfl rfl) rfl rfl ?_; clear hA a; intro a hA
          refine goS hA (wanted_no hA rfl rfl rfl rfl) rfl rfl ?_; clear hA a; intro a hA
          refine goS hA (wanted_no hA rfl rfl rfl rfl) rfl rfl ?_; clear hA a; intro a hA
          refine goS hA (wanted_no hA rfl rfl rfl rfl) rfl rfl ?_; clear hA a; intro a hA
          refine go1 hA rfl rfl rfl (r_pick_t (hA.ev rfl) (hA.ev rfl)) ?_; clear hA a; intro a hA
          refine wpList_nil ?_
          refine hk3 _ _ ?_
          clear hk3 k3
          replace hA := hA.keep (.cons (i := 2) rfl (.cons (i := 3) rfl (.cons (i := 4) rfl (.cons (i := 47) rfl .nil))))
          refine wp_cond_true (hA.ev rfl) ?_
          refine wp_seq_k fun k7 hk7 => ?_
          refine wp_region_lit ?_
          refine go1 hA rfl rfl rfl (r_assign (hA.ev rfl)) ?_; clear hA a; intro a hA
          refine wpList_nil ?_
          refine hk7 _ _ ?_
          clear hk7 k7
          replace hA := hA.keep (.cons (i := 2) rfl (.cons (i := 3) rfl (.cons (i := 4) rfl .nil)))
          refine wp_ret ?_
          refine then_ret ?_; clear hk2 k2
          refine end1 hA rfl rfl ?_
          first | (refine ⟨_, rfl, ⟨(fun h => by cases h), (fun h => ?_)⟩, hS.nil⟩; obtain ⟨e1, e2, e3, e4, e5, e6⟩ := h; have e7 := congrArg List.length e6; simp only [List.length_map] at e7; omega) | (refine ⟨_, rfl, ⟨(fun h => by cases h), (fun h => ?_)⟩, hS.nil⟩; obtain ⟨e1, e2, e3, e4, e5, e6⟩ := h; have e7 := congrArg (fun l => l[i.toNat]?) e6; simp only [List.getElem?_map, hp, hq, Option.map_some, Option.some.injEq, key, Prod.mk.injEq] at e7; first | omega | simp_all) | (refine ⟨_, rfl, ⟨(fun _ => ⟨by omega, by omega, by omega, by omega, by omega, ?_⟩), (fun _ => rfl)⟩, hS.nil⟩; refine List.ext_getElem? fun j => ?_; rw [List.getElem?_map, List.getElem?_map]; by_cases hj : (j : Int) < i; exact hG j hj; rw [List.getElem?_eq_none (by omega), List.getElem?_eq_none (by omega)])
        · clear hA a; intro h30 a hA
          refine go1 hA rfl rfl rfl (r_pick_f (hA.ev rfl) (hA.ev rfl)) ?_; clear hA a; intro a hA
          refine go1 hA rfl rfl rfl (r_move (hA.ev rfl)) ?_; clear hA a; intro a hA
          refine go1y hA (wanted_yes hA rfl rfl rfl) rfl rfl (r_field (hA.ev rfl) T.fo24_4) ?_; clear hA a; intro a hA
          refine go1y hA (wanted_yes hA rfl rfl rfl) rfl rfl (r_load (hA.ev rfl) T.fl3 (by first | exact hS.cell rfl | exact (hS.p 1).cell rfl)) ?_; clear hA a; intro a hA
          refine go1y hA (wanted_yes hA rfl rfl rfl) rfl rfl (r_field (hA.ev rfl) T.fo24_4) ?_; clear hA a; intro a hA
          refine go1y hA (wanted_yes hA rfl rfl rfl) rfl rfl (r_load (hA.ev rfl) T.fl3 (by first | exact hS.cell rfl | exact (hS.p 1).cell rfl)) ?_; clear hA a; intro a hA
          refine go1sy hA (wanted_yes hA rfl rfl rfl) rfl rfl (r_neq (hA.ev rfl) (hA.ev rfl)) ?_ ?_
          · clear hA a; intro h37 a hA
            refine go1 hA rfl rfl rfl (r_pick_f (hA.ev rfl) (hA.ev rfl)) ?_; clear hA a; intro a hA
            refine go1 hA rfl rfl rfl (r_move (hA.ev rfl)) ?_; clear hA a; intro a hA
            refine goS hA (wanted_no hA rfl rfl rfl rfl) rfl rfl ?_; clear hA a; intro a hA
            refine goS hA (wanted_no hA rfl rfl rfl rfl) rfl rfl ?_; clear hA a; intro a hA
            refine goS hA (wanted_no hA rfl rfl rfl rfl) rfl rfl ?_; clear hA a; intro a hA
            refine goS hA (wanted_no hA rfl rfl rfl rfl) rfl rfl ?_; clear hA a; intro a hA
            refine goS hA (wanted_no hA rfl rfl rfl rfl) rfl rfl ?_; clear hA a; intro a hA
            refine goS hA (wanted_no hA rfl rfl rfl rfl) rfl rfl ?_; clear hA a; intro a hA
            refine goS hA (wanted_no hA rfl rfl rfl rfl) rfl rfl ?_; clear hA a; intro a hA
            refine go1 hA rfl rfl rfl (r_pick_t (hA.ev rfl) (hA.ev rfl)) ?_; clear hA a; intro a hA
            refine wpList_nil ?_
            refine hk3 _ _ ?_
            clear hk3 k3
            replace hA := hA.keep (.cons (i := 2) rfl (.cons (i := 3) rfl (.cons (i := 4) rfl (.cons (i := 47) rfl .nil))))
            refine wp_cond_true (hA.ev rfl) ?_
            refine wp_seq_k fun k8 hk8 => ?_
            refine wp_region_lit ?_
            refine go1 hA rfl rfl rfl (r_assign (hA.ev rfl)) ?_; clear hA a; intro a hA
            refine wpList_nil ?_
            refine hk8 _ _ ?_
            clear hk8 k8
            replace hA := hA.keep (.cons (i := 2) rfl (.cons (i := 3) rfl (.cons (i := 4) rfl .nil)))
            refine wp_ret ?_
            refine then_ret ?_; clear hk2 k2
            refine end1 hA rfl rfl ?_
            first | (refine ⟨_, rfl, ⟨(fun h => by cases h), (fun h => ?_)⟩, hS.nil⟩; obtain ⟨e1, e2, e3, e4, e5, e6⟩ := h; have e7 := congrArg List.length e6; simp only [List.length_map] at e7; omega) | (refine ⟨_, rfl, ⟨(fun h => by cases h), (fun h => ?_)⟩, hS.nil⟩; obtain ⟨e1, e2, e3, e4, e5, e6⟩ := h; have e7 := congrArg (fun l => l[i.toNat]?) e6; simp only [List.getElem?_map, hp, hq, Option.map_some, Option.some.injEq, key, Prod.mk.injEq] at e7; first | omega | simp_all) | (refine ⟨_, rfl, ⟨(fun _ => ⟨by omega, by omega, by omega, by omega, by omega, ?_⟩), (fun _ => rfl)⟩, hS.nil⟩; refine List.ext_getElem? fun j => ?_; rw [List.getElem?_map, List.getElem?_map]; by_cases hj : (j : Int) < i; exact hG j hj; rw [List.getElem?_eq_none (by omega), List.getElem?_eq_none (by omega)])
          · clear hA a; intro h37 a hA
            refine go1 hA rfl rfl rfl (r_pick_f (hA.ev rfl) (hA.ev rfl)) ?_; clear hA a; intro a hA
            refine go1 hA rfl rfl rfl (r_move (hA.ev rfl)) ?_; clear hA a; intro a hA
            refine go1y hA (wanted_yes hA rfl rfl rfl) rfl rfl (r_field (hA.ev rfl) T.fo24_5) ?_; clear hA a; intro a hA
            refine go1y hA (wanted_yes hA rfl rfl rfl) rfl rfl (r_load (hA.ev rfl) T.fl22 (by first | exact hS.cell rfl | exact (hS.p 1).cell rfl)) ?_; clear hA a; intro a hA
            refine go1y hA (wanted_yes hA rfl rfl rfl) rfl rfl (r_lens (hA.ev rfl) T.un22) ?_; clear hA a; intro a hA
            refine go1y hA (wanted_yes hA rfl rfl rfl) rfl rfl (r_field (hA.ev rfl) T.fo24_5) ?_; clear hA a; intro a hA
            refine go1y hA (wanted_yes hA rfl rfl rfl) rfl rfl (r_load (hA.ev rfl) T.fl22 (by first | exact hS.cell rfl | exact (hS.p 1).cell rfl)) ?_; clear hA a; intro a hA
            refine go1y hA (wanted_yes hA rfl rfl rfl) rfl rfl (r_lens (hA.ev rfl) T.un22) ?_; clear hA a; intro a hA
            refine go1sy hA (wanted_yes hA rfl rfl rfl) rfl rfl (r_neq (hA.ev rfl) (hA.ev rfl)) ?_ ?_
            · clear hA a; intro h46 a hA
              refine go1 hA rfl rfl rfl (r_pick_f (hA.ev rfl) (hA.ev rfl)) ?_; clear hA a; intro a hA
              refine wpList_nil ?_
              refine hk3 _ _ ?_
              clear hk3 k3
              replace hA := hA.keep (.cons (i := 2) rfl (.cons (i := 3) rfl (.cons (i := 4) rfl (.cons (i := 47) rfl .nil))))
              refine wp_cond_true (hA.ev rfl) ?_
              refine wp_seq_k fun k9 hk9 => ?_
              refine wp_region_lit ?_
              refine go1 hA rfl rfl rfl (r_assign (hA.ev rfl)) ?_; clear hA a; intro a hA
              refine wpList_nil ?_
              refine hk9 _ _ ?_
              clear hk9 k9
              replace hA := hA.keep (.cons (i := 2) rfl (.cons (i := 3) rfl (.cons (i := 4) rfl .nil)))
              refine wp_ret ?_
              refine then_ret ?_; clear hk2 k2
              refine end1 hA rfl rfl ?_
              first | (refine ⟨_, rfl, ⟨(fun h => by cases h), (fun h => ?_)⟩, hS.nil⟩; obtain ⟨e1, e2, e3, e4, e5, e6⟩ := h; have e7 := congrArg List.length e6; simp only [List.length_map] at e7; omega) | (refine ⟨_, rfl, ⟨(fun h => by cases h), (fun h => ?_)⟩, hS.nil⟩; obtain ⟨e1, e2, e3, e4, e5, e6⟩ := h; have e7 := congrArg (fun l => l[i.toNat]?) e6; simp only [List.getElem?_map, hp, hq, Option.map_some, Option.some.injEq, key, Prod.mk.injEq] at e7; first | omega | simp_all) | (refine ⟨_, rfl, ⟨(fun _ => ⟨by omega, by omega, by omega, by omega, by omega, ?_⟩), (fun _ => rfl)⟩, hS.nil⟩; refine List.ext_getElem? fun j => ?_; rw [List.getElem?_map, List.getElem?_map]; by_cases hj : (j : Int) < i; exact hG j hj; rw [List.getElem?_eq_none (by omega), List.getElem?_eq_none (by omega)])
            · clear hA a; intro h46 a hA
              refine go1 hA rfl rfl rfl (r_pick_f (hA.ev rfl) (hA.ev rfl)) ?_; clear hA a; intro a hA
              refine wpList_nil ?_
              refine hk3 _ _ ?_
              clear hk3 k3
              replace hA := hA.keep (.cons (i := 2) rfl (.cons (i := 3) rfl (.cons (i := 4) rfl (.cons (i := 47) rfl .nil))))
              refine wp_cond_false (hA.ev rfl) ?_
              refine wp_skip ?_
              refine hk2 _ _ ?_
              clear hk2 k2
              replace hA := hA.keep (.cons (i := 2) rfl (.cons (i := 3) rfl (.cons (i := 4) rfl .nil)))
              refine wp_seq_k fun k10 hk10 => ?_
              refine wp_seq_k fun k11 hk11 => ?_
              refine wp_region_lit ?_
              refine go1 hA rfl rfl rfl (r_assign (hA.ev rfl)) ?_; clear hA a; intro a hA
              refine wpList_nil ?_
              refine hk11 _ _ ?_
              clear hk11 k11
              refine wp_block ?_
              refine wp_loop_ghost (fun (mm : Nat) a w => ∃ i : Int, Ag a 84 [(2, .pointer (some ⟨b2, 0, none⟩)), (3, .pointer (some ⟨b3, 0, none⟩)), (5, .int .i64 i)] ∧ Sat W w [pto b3 (.cells #[.int .i64 k2, .int .i64 f2, .int .i64 t2, .int .i64 lo2, .int .i64 hi2, .slice A2 qs.length c2] 24), pto b2 (.cells #[.int .i64 k, .int .i64 f, .int .i64 t, .int .i64 lo, .int .i64 hi, .slice A ps.length c] 24)] ∧ 0 ≤ i ∧ i ≤ ps.length ∧ mm = (ps.length - i).toNat ∧ ∀ j : Nat, (j : Int) < i → (ps[j]?).map key = (qs[j]?).map key) ps.length ?_ ?_
              · replace hA := hA.keep (.cons (i := 2) rfl (.cons (i := 3) rfl (.cons (i := 5) rfl .nil)))
                exact ⟨0, hA, hS, by omega, by omega, by omega, fun j hj => by omega⟩
              intro m a w hI
              obtain ⟨i, hA, hS, hi0, hi1, rfl, hG⟩ := hI
              refine wp_seq_k fun k12 hk12 => ?_
              refine wp_seq_k fun k13 hk13 => ?_
              refine wp_region_lit ?_
              refine go1 hA rfl rfl rfl (r_move (hA.ev rfl)) ?_; clear hA a; intro a hA
              refine go1 hA rfl rfl rfl (r_field (hA.ev rfl) T.fo24_5) ?_; clear hA a; intro a hA
              refine go1 hA rfl rfl rfl (r_load (hA.ev rfl) T.fl22 (by first | exact hS.cell rfl | exact (hS.p 1).cell rfl)) ?_; clear hA a; intro a hA
              refine go1 hA rfl rfl rfl (r_lens (hA.ev rfl) T.un22) ?_; clear hA a; intro a hA
              refine go1s hA rfl rfl rfl (r_lss (hA.ev rfl) (hA.ev rfl)) ?_ ?_
              · clear hA a; intro h52 a hA
                obtain ⟨p0, rfl⟩ : ∃ p, A = some p := hR.hasAddr (by omega)
                obtain ⟨q0, rfl⟩ : ∃ p, A2 = some p := hR2.hasAddr (by omega)
                obtain ⟨p, hp⟩ : ∃ x, ps[i.toNat]? = some x := ⟨_, List.getElem?_eq_getElem (by omega)⟩
                obtain ⟨q, hq⟩ : ∃ y, qs[i.toNat]? = some y := ⟨_, List.getElem?_eq_getElem (by omega)⟩
                refine wpList_nil ?_
                refine hk13 _ _ ?_
                clear hk13 k13
                refine wp_cond_true (hA.ev rfl) ?_
                refine wp_skip ?_
                refine hk12 _ _ ?_
                clear hk12 k12
                refine wp_seq_k fun k14 hk14 => ?_
                refine wp_block ?_
                refine wp_seq_k fun k15 hk15 => ?_
                refine qEnter (fun w' => Sat _ w' _) (by kernel_rfl) (by kernel_rfl) hS.drew ?_
                refine K.q1 hA rfl rfl rfl (fun w hS => (r_field (hA.ev rfl) T.fo24_5)) ?_; clear hA a; intro a hA
                refine K.q1 hA rfl rfl rfl (fun w hS => (r_load (hA.ev rfl) T.fl22 (by first | exact hS.cell rfl | exact (hS.p 1).cell rfl))) ?_; clear hA a; intro a hA
                refine K.q1 hA rfl rfl rfl (fun w hS => (r_move (hA.ev rfl))) ?_; clear hA a; intro a hA
                refine K.q1 hA rfl rfl rfl (fun w hS => (r_index (hA.ev rfl) (hA.ev rfl) T.un22 T.sz49 (by omega) (by omega))) ?_; clear hA a; intro a hA
                refine K.q1 hA rfl rfl rfl (fun w hS => (r_fieldP (hA.ev rfl) T.fo49_0)) ?_; clear hA a; intro a hA
                refine K.q1 hA rfl rfl rfl (fun w hS => (r_load (hA.ev rfl) T.fl3 ((hR.sat hS).elem (part_at hp) 0 _ rfl))) ?_; clear hA a; intro a hA
                refine K.q1 hA rfl rfl rfl (fun w hS => (r_field (hA.ev rfl) T.fo24_5)) ?_; clear hA a; intro a hA
                refine K.q1 hA rfl rfl rfl (fun w hS => (r_load (hA.ev rfl) T.fl22 (by first | exact hS.cell rfl | exact (hS.p 1).cell rfl))) ?_; clear hA a; intro a hA
                refine K.q1 hA rfl rfl rfl (fun w hS => (r_move (hA.ev rfl))) ?_; clear hA a; intro a hA
                refine K.q1 hA rfl rfl rfl (fun w hS => (r_index (hA.ev rfl) (hA.ev rfl) T.un22 T.sz49 (by omega) (by omega))) ?_; clear hA a; intro a hA
                refine K.q1 hA rfl rfl rfl (fun w hS => (r_fieldP (hA.ev rfl) T.fo49_0)) ?_; clear hA a; intro a hA
                refine K.q1 hA rfl rfl rfl (fun w hS => (r_load (hA.ev rfl) T.fl3 ((hR2.sat hS).elem (part_at hq) 0 _ rfl))) ?_; clear hA a; intro a hA
                refine K.q1s hA rfl rfl rfl (fun w hS => (r_neq (hA.ev rfl) (hA.ev rfl))) ?_ ?_
                · clear hA a; intro h67 a hA
                  refine K.q1 hA rfl rfl rfl (fun w hS => (r_move (hA.ev rfl))) ?_; clear hA a; intro a hA
                  refine qS hA (wanted_no hA rfl rfl rfl rfl) rfl rfl ?_; clear hA a; intro a hA
                  refine qS hA (wanted_no hA rfl rfl rfl rfl) rfl rfl ?_; clear hA a; intro a hA
                  refine qS hA (wanted_no hA rfl rfl rfl rfl) rfl rfl ?_; clear hA a; intro a hA
                  refine qS hA (wanted_no hA rfl rfl rfl rfl) rfl rfl ?_; clear hA a; intro a hA
                  refine qS hA (wanted_no hA rfl rfl rfl rfl) rfl rfl ?_; clear hA a; intro a hA
                  refine qS hA (wanted_no hA rfl rfl rfl rfl) rfl rfl ?_; clear hA a; intro a hA
                  refine qS hA (wanted_no hA rfl rfl rfl rfl) rfl rfl ?_; clear hA a; intro a hA
                  refine qS hA (wanted_no hA rfl rfl rfl rfl) rfl rfl ?_; clear hA a; intro a hA
                  refine qS hA (wanted_no hA rfl rfl rfl rfl) rfl rfl ?_; clear hA a; intro a hA
                  refine qS hA (wanted_no hA rfl rfl rfl rfl) rfl rfl ?_; clear hA a; intro a hA
                  refine qS hA (wanted_no hA rfl rfl rfl rfl) rfl rfl ?_; clear hA a; intro a hA
                  refine qS hA (wanted_no hA rfl rfl rfl rfl) rfl rfl ?_; clear hA a; intro a hA
                  refine qS hA (wanted_no hA rfl rfl rfl rfl) rfl rfl ?_; clear hA a; intro a hA
                  refine qS hA (wanted_no hA rfl rfl rfl rfl) rfl rfl ?_; clear hA a; intro a hA
                  refine K.q1 hA rfl rfl rfl (fun w hS => (r_pick_t (hA.ev rfl) (hA.ev rfl))) ?_; clear hA a; intro a hA
                  refine wpQuiet_nil ?_
                  clear hS; intro w hS
                  refine hk15 _ _ ?_
                  clear hk15 k15
                  refine wp_cond_true (hA.ev rfl) ?_
                  refine wp_seq_k fun k16 hk16 => ?_
                  refine wp_region_lit ?_
                  refine go1 hA rfl rfl rfl (r_assign (hA.ev rfl)) ?_; clear hA a; intro a hA
                  refine wpList_nil ?_
                  refine hk16 _ _ ?_
                  clear hk16 k16
                  refine wp_ret ?_
                  refine block_ret ?_
                  refine then_ret ?_; clear hk14 k14
                  refine then_ret ?_
                  refine block_ret ?_
                  refine then_ret ?_; clear hk10 k10
                  refine end1 hA rfl rfl ?_
                  first | (refine ⟨_, rfl, ⟨(fun h => by cases h), (fun h => ?_)⟩, hS.nil⟩; obtain ⟨e1, e2, e3, e4, e5, e6⟩ := h; have e7 := congrArg List.length e6; simp only [List.length_map] at e7; omega) | (refine ⟨_, rfl, ⟨(fun h => by cases h), (fun h => ?_)⟩, hS.nil⟩; obtain ⟨e1, e2, e3, e4, e5, e6⟩ := h; have e7 := congrArg (fun l => l[i.toNat]?) e6; simp only [List.getElem?_map, hp, hq, Option.map_some, Option.some.injEq, key, Prod.mk.injEq] at e7; first | omega | simp_all) | (refine ⟨_, rfl, ⟨(fun _ => ⟨by omega, by omega, by omega, by omega, by omega, ?_⟩), (fun _ => rfl)⟩, hS.nil⟩; refine List.ext_getElem? fun j => ?_; rw [List.getElem?_map, List.getElem?_map]; by_cases hj : (j : Int) < i; exact hG j hj; rw [List.getElem?_eq_none (by omega), List.getElem?_eq_none (by omega)])
                · clear hA a; intro h67 a hA
                  refine K.q1 hA rfl rfl rfl (fun w hS => (r_move (hA.ev rfl))) ?_; clear hA a; intro a hA
                  refine K.q1y hA (wanted_yes hA rfl rfl rfl) rfl rfl (fun w hS => (r_field (hA.ev rfl) T.fo24_5)) ?_; clear hA a; intro a hA
                  refine K.q1y hA (wanted_yes hA rfl rfl rfl) rfl rfl (fun w hS => (r_load (hA.ev rfl) T.fl22 (by first | exact hS.cell rfl | exact (hS.p 1).cell rfl))) ?_; clear hA a; intro a hA
                  refine K.q1y hA (wanted_yes hA rfl rfl rfl) rfl rfl (fun w hS => (r_move (hA.ev rfl))) ?_; clear hA a; intro a hA
                  refine K.q1y hA (wanted_yes hA rfl rfl rfl) rfl rfl (fun w hS => (r_index (hA.ev rfl) (hA.ev rfl) T.un22 T.sz49 (by omega) (by omega))) ?_; clear hA a; intro a hA
                  refine K.q1y hA (wanted_yes hA rfl rfl rfl) rfl rfl (fun w hS => (r_fieldP (hA.ev rfl) T.fo49_1)) ?_; clear hA a; intro a hA
                  refine K.q1y hA (wanted_yes hA rfl rfl rfl) rfl rfl (fun w hS => (r_load (hA.ev rfl) T.fl34 ((hR.sat hS).elem (part_at hp) 1 _ rfl))) ?_; clear hA a; intro a hA
                  refine K.q1y hA (wanted_yes hA rfl rfl rfl) rfl rfl (fun w hS => (r_field (hA.ev rfl) T.fo24_5)) ?_; clear hA a; intro a hA
                  refine K.q1y hA (wanted_yes hA rfl rfl rfl) rfl rfl (fun w hS => (r_load (hA.ev rfl) T.fl22 (by first | exact hS.cell rfl | exact (hS.p 1).cell rfl))) ?_; clear hA a; intro a hA
                  refine K.q1y hA (wanted_yes hA rfl rfl rfl) rfl rfl (fun w hS => (r_move (hA.ev rfl))) ?_; clear hA a; intro a hA
                  refine K.q1y hA (wanted_yes hA rfl rfl rfl) rfl rfl (fun w hS => (r_index (hA.ev rfl) (hA.ev rfl) T.un22 T.sz49 (by omega) (by omega))) ?_; clear hA a; intro a hA
                  refine K.q1y hA (wanted_yes hA rfl rfl rfl) rfl rfl (fun w hS => (r_fieldP (hA.ev rfl) T.fo49_1)) ?_; clear hA a; intro a hA
                  refine K.q1y hA (wanted_yes hA rfl rfl rfl) rfl rfl (fun w hS => (r_load (hA.ev rfl) T.fl34 ((hR2.sat hS).elem (part_at hq) 1 _ rfl))) ?_; clear hA a; intro a hA
                  refine qFy hA (wanted_yes hA rfl rfl rfl) rfl T.en23 rfl (fun w hS => (EqualBytes_calls w p.A p.c p.b q.A q.c q.b ((hB p (List.mem_of_getElem? hp)).1.sat hS) ((hB2 q (List.mem_of_getElem? hq)).1.sat hS) (hB p (List.mem_of_getElem? hp)).2 (hB2 q (List.mem_of_getElem? hq)).2).mono fun e w' ⟨he, hT⟩ => ⟨he, hS.rebase hT⟩) ?_; clear hA a; intro a hA
                  refine K.q1by hA (wanted_yes hA rfl rfl rfl) rfl rfl (fun w hS => (r_not (hA.ev rfl))) ?_ ?_
                  · clear hA a; intro h82 a hA
                    refine K.q1 hA rfl rfl rfl (fun w hS => (r_pick_f (hA.ev rfl) (hA.ev rfl))) ?_; clear hA a; intro a hA
                    refine wpQuiet_nil ?_
                    clear hS; intro w hS
                    refine hk15 _ _ ?_
                    clear hk15 k15
                    refine wp_cond_true (hA.ev rfl) ?_
                    refine wp_seq_k fun k17 hk17 => ?_
                    refine wp_region_lit ?_
                    refine go1 hA rfl rfl rfl (r_assign (hA.ev rfl)) ?_; clear hA a; intro a hA
                    refine wpList_nil ?_
                    refine hk17 _ _ ?_
                    clear hk17 k17
                    refine wp_ret ?_
                    refine block_ret ?_
                    refine then_ret ?_; clear hk14 k14
                    refine then_ret ?_
                    refine block_ret ?_
                    refine then_ret ?_; clear hk10 k10
                    refine end1 hA rfl rfl ?_
                    first | (refine ⟨_, rfl, ⟨(fun h => by cases h), (fun h => ?_)⟩, hS.nil⟩; obtain ⟨e1, e2, e3, e4, e5, e6⟩ := h; have e7 := congrArg List.length e6; simp only [List.length_map] at e7; omega) | (refine ⟨_, rfl, ⟨(fun h => by cases h), (fun h => ?_)⟩, hS.nil⟩; obtain ⟨e1, e2, e3, e4, e5, e6⟩ := h; have e7 := congrArg (fun l => l[i.toNat]?) e6; simp only [List.getElem?_map, hp, hq, Option.map_some, Option.some.injEq, key, Prod.mk.injEq] at e7; first | omega | simp_all) | (refine ⟨_, rfl, ⟨(fun _ => ⟨by omega, by omega, by omega, by omega, by omega, ?_⟩), (fun _ => rfl)⟩, hS.nil⟩; refine List.ext_getElem? fun j => ?_; rw [List.getElem?_map, List.getElem?_map]; by_cases hj : (j : Int) < i; exact hG j hj; rw [List.getElem?_eq_none (by omega), List.getElem?_eq_none (by omega)])
                  · clear hA a; intro h82 a hA
                    refine K.q1 hA rfl rfl rfl (fun w hS => (r_pick_f (hA.ev rfl) (hA.ev rfl))) ?_; clear hA a; intro a hA
                    refine wpQuiet_nil ?_
                    clear hS; intro w hS
                    refine hk15 _ _ ?_
                    clear hk15 k15
                    refine wp_cond_false (hA.ev rfl) ?_
                    refine wp_skip ?_
                    refine block_normal ?_
                    refine hk14 _ _ ?_
                    clear hk14 k14
                    refine wp_region_lit ?_
                    refine go1 hA rfl rfl rfl (r_move (hA.ev rfl)) ?_; clear hA a; intro a hA
                    refine go1 hA rfl rfl rfl (r_add64 (hA.ev rfl) (hA.ev rfl) (by omega) (by omega)) ?_; clear hA a; intro a hA
                    refine go1 hA rfl rfl rfl (r_assign (hA.ev rfl)) ?_; clear hA a; intro a hA
                    refine wpList_nil ?_
                    replace hA := hA.keep (.cons (i := 2) rfl (.cons (i := 3) rfl (.cons (i := 5) rfl .nil)))
                    refine ⟨(ps.length - (i + 1)).toNat, by omega, i + 1, hA, hS, by omega, by omega, rfl, fun j hj => ?_⟩
                    by_cases hji : (j : Int) < i
                    · exact hG j hji
                    · obtain rfl : j = i.toNat := by omega
                      rw [hp, hq]
                      have hb : p.b = q.b := by simpa using h82
                      simp only [Option.map_some, key, hb, show p.cart = q.cart from by omega]
              · clear hA a; intro h52 a hA
                refine wpList_nil ?_
                refine hk13 _ _ ?_
                clear hk13 k13
                refine wp_cond_false (hA.ev rfl) ?_
                refine wp_exit ?_
                refine then_exit ?_; clear hk12 k12
                refine then_exit ?_
                refine block_hit ?_
                refine hk10 _ _ ?_
                clear hk10 k10
                replace hA := hA.keep .nil
                refine wp_seq_k fun k18 hk18 => ?_
                refine wp_region_lit ?_
                refine go1 hA rfl rfl rfl (r_assign (hA.ev rfl)) ?_; clear hA a; intro a hA
                refine wpList_nil ?_
                refine hk18 _ _ ?_
                clear hk18 k18
                refine wp_ret ?_
                refine end1 hA rfl rfl ?_
                first | (refine ⟨_, rfl, ⟨(fun h => by cases h), (fun h => ?_)⟩, hS.nil⟩; obtain ⟨e1, e2, e3, e4, e5, e6⟩ := h; have e7 := congrArg List.length e6; simp only [List.length_map] at e7; omega) | (refine ⟨_, rfl, ⟨(fun h => by cases h), (fun h => ?_)⟩, hS.nil⟩; obtain ⟨e1, e2, e3, e4, e5, e6⟩ := h; have e7 := congrArg (fun l => l[i.toNat]?) e6; simp only [List.getElem?_map, hp, hq, Option.map_some, Option.some.injEq, key, Prod.mk.injEq] at e7; first | omega | simp_all) | (refine ⟨_, rfl, ⟨(fun _ => ⟨by omega, by omega, by omega, by omega, by omega, ?_⟩), (fun _ => rfl)⟩, hS.nil⟩; refine List.ext_getElem? fun j => ?_; rw [List.getElem?_map, List.getElem?_map]; by_cases hj : (j : Int) < i; exact hG j hj; rw [List.getElem?_eq_none (by omega), List.getElem?_eq_none (by omega)])
set_option maxRecDepth 100000 in
theorem some_calls (W : World)   : Calls Try.prog 13 #[] W fun e w' => ∃ A A2, e = .returned (.agg #[.int .i64 1, .int .i64 0, .int .i64 1, .int .i64 2, .int .i64 3, .slice A 1 1]) ∧ Sat W w' [row 49 2 (.slice A 1 1) 1 [.int .i64 4, .slice A2 2 2], row 5 1 (.slice A2 2 2) 2 [.int .u8 255, .int .u8 0]] := by
  refine enter Try.func13 rfl rfl rfl .nil ?_
  intro a hA
  have hS := Sat.start W
  refine wp_seq_k fun k1 hk1 => ?_
  refine wp_region_lit ?_
  refine goN hA rfl T.zv24 hS ?_
  clear hA a hS; intro b0 w hS a hA
  refine wpList_nil ?_
  refine hk1 _ _ ?_
  clear hk1 k1
  refine wp_seq_k fun k2 hk2 => ?_
  refine wp_region_lit ?_
  refine goL hA rfl rfl T.un34 T.el5 rfl rfl rfl (by simp [Value.oneCell']) hS ?_
  clear hA a hS; intro A1 w hS a hA
  refine go1 hA rfl rfl rfl (r_build hA rfl T.bd49_0_1) ?_; clear hA a; intro a hA
  refine goLS (vss := [[_, _]]) hA rfl rfl T.un22 T.el49 rfl rfl rfl (by simp) rfl hS ?_
  clear hA a hS; intro A3 w hS a hA
  refine go1 hA rfl rfl rfl (r_build hA rfl T.bd24_0_1_2_3_4_5) ?_; clear hA a; intro a hA
  first | refine goWS2 (vs := [_, _, _, _, _, _]) (cs' := [_, _, _, _, _, _]) hA rfl rfl T.sz24 (by simp [Value.oneCell']) hS rfl rfl ?_ | refine goWS2 (vs := [_, _, _, _, _, _]) (cs' := [_, _, _, _, _, _]) hA rfl rfl T.sz24 (by simp [Value.oneCell']) (hS.p 1) rfl rfl ?_ | refine goWS2 (vs := [_, _, _, _, _, _]) (cs' := [_, _, _, _, _, _]) hA rfl rfl T.sz24 (by simp [Value.oneCell']) (hS.p 2) rfl rfl ?_
  clear hS; intro w hS
  refine wpList_nil ?_
  refine hk2 _ _ ?_
  clear hk2 k2
  replace hA := hA.keep (.cons (i := 0) rfl .nil)
  refine wp_ret ?_
  refine endR1 hA rfl (resS (cs := [_, _, _, _, _, _]) hA rfl T.ag24 T.sz24 (by first | exact hS.cellsAt (xs := [_, _, _, _, _, _]) rfl | exact (hS.p 1).cellsAt (xs := [_, _, _, _, _, _]) rfl | exact (hS.p 2).cellsAt (xs := [_, _, _, _, _, _]) rfl)) ?_
  exact ⟨_, _, rfl, hS.drop⟩
set_option maxRecDepth 100000 in
theorem Ack_calls (W : World) (k f t lo hi : Int) (A : Option Addr) (c : Nat) (ps : List PartD) (hR : Rd W 2 (.slice A ps.length c) ps.length (ps.flatMap encP)) (hlen : ps.length ≤ 140737488355328) : Calls Try.prog 12 #[.agg #[.int .i64 k, .int .i64 f, .int .i64 t, .int .i64 lo, .int .i64 hi, .slice A ps.length c]] W fun e w' => ∃ k' f' t' hi' er, e = .returned (.tuple #[.agg #[.int .i64 k', .int .i64 f', .int .i64 t', .int .i64 0, .int .i64 hi', .slice none 0 0], .int .i64 er]) ∧ ((¬ Form k f t lo hi ps ∧ er = 1 ∧ k' = 0 ∧ f' = 0 ∧ t' = 0 ∧ hi' = 0) ∨ (Form k f t lo hi ps ∧ ¬ (k = 1 ∨ k = 2) ∧ er = 7 ∧ k' = 0 ∧ f' = 0 ∧ t' = 0 ∧ hi' = 0) ∨ (Form k f t lo hi ps ∧ (k = 1 ∨ k = 2) ∧ er = 0 ∧ k' = 3 ∧ f' = t ∧ t' = f ∧ hi' = hi)) ∧ Sat W w' [] := by
  refine enter Try.func12 rfl rfl rfl (.cons (i := 0) rfl .nil) ?_
  intro a hA
  have hS := Sat.start W
  refine wp_seq_k fun k1 hk1 => ?_
  refine wp_region_lit ?_
  refine goB hA rfl rfl hS ?_
  clear hA a hS; intro b1 w hS a hA
  refine goN hA rfl T.zv24 hS ?_
  clear hA a hS; intro b2 w hS a hA
  refine go1 hA rfl rfl rfl (r_assign (hA.ev rfl)) ?_; clear hA a; intro a hA
  refine wpList_nil ?_
  refine hk1 _ _ ?_
  clear hk1 k1
  replace hA := hA.keep (.cons (i := 1) rfl (.cons (i := 2) rfl (.cons (i := 3) rfl .nil)))
  refine wp_seq_k fun k2 hk2 => ?_
  refine wp_seq_k fun k3 hk3 => ?_
  refine wp_region_lit ?_
  refine go1 hA rfl rfl rfl (r_loadS (cs := [_, _, _, _, _, _]) (hA.ev rfl) T.ag24 T.sz24 (by first | exact hS.cellsAt (xs := [_, _, _, _, _, _]) rfl | exact (hS.p 1).cellsAt (xs := [_, _, _, _, _, _]) rfl | exact (hS.p 2).cellsAt (xs := [_, _, _, _, _, _]) rfl)) ?_; clear hA a; intro a hA
  refine goF hA rfl T.en16 rfl (Check_calls w k f t lo hi A c ps (hR.sat hS) hlen) ?_
  clear hA a; rintro e w ⟨er, rfl, hc, hT⟩; replace hS : Sat _ _ _ := hS.rebase hT; clear hT
  refine ⟨_, rfl, ?_⟩; intro a hA
  refine go1s hA rfl rfl rfl (r_neq (hA.ev rfl) (hA.ev rfl)) ?_ ?_
  · clear hA a; intro h6 a hA
    have hF : ¬ Form k f t lo hi ps := by
      rcases hc with ⟨h, _⟩ | ⟨_, h⟩
      · omega
      · exact h
    refine wpList_nil ?_
    refine hk3 _ _ ?_
    clear hk3 k3
    replace hA := hA.keep (.cons (i := 1) rfl (.cons (i := 2) rfl (.cons (i := 3) rfl (.cons (i := 6) rfl .nil))))
    refine wp_cond_true (hA.ev rfl) ?_
    refine wp_seq_k fun k4 hk4 => ?_
    refine wp_region_lit ?_
    refine go1 hA rfl rfl rfl (r_build hA rfl T.bd24_) ?_; clear hA a; intro a hA
    first | refine goWS2 (vs := [_, _, _, _, _, _]) (cs' := [_, _, _, _, _, _]) hA rfl rfl T.sz24 (by simp [Value.oneCell']) hS rfl rfl ?_ | refine goWS2 (vs := [_, _, _, _, _, _]) (cs' := [_, _, _, _, _, _]) hA rfl rfl T.sz24 (by simp [Value.oneCell']) (hS.p 1) rfl rfl ?_ | refine goWS2 (vs := [_, _, _, _, _, _]) (cs' := [_, _, _, _, _, _]) hA rfl rfl T.sz24 (by simp [Value.oneCell']) (hS.p 2) rfl rfl ?_
    clear hS; intro w hS
    refine go1 hA rfl rfl rfl (r_assign (hA.ev rfl)) ?_; clear hA a; intro a hA
    refine wpList_nil ?_
    refine hk4 _ _ ?_
    clear hk4 k4
    replace hA := hA.keep (.cons (i := 1) rfl (.cons (i := 2) rfl (.cons (i := 3) rfl .nil)))
    refine wp_ret ?_
    refine then_ret ?_; clear hk2 k2
    refine endR2 hA rfl (resS (cs := [_, _, _, _, _, _]) hA rfl T.ag24 T.sz24 (by first | exact hS.cellsAt (xs := [_, _, _, _, _, _]) rfl | exact (hS.p 1).cellsAt (xs := [_, _, _, _, _, _]) rfl | exact (hS.p 2).cellsAt (xs := [_, _, _, _, _, _]) rfl)) (resT hA rfl) ?_
    exact ⟨_, _, _, _, _, rfl, .inl ⟨hF, rfl, rfl, rfl, rfl, rfl⟩, hS.nil⟩
  · clear hA a; intro h6 a hA
    have hF : Form k f t lo hi ps := by
      rcases hc with ⟨_, h⟩ | ⟨h, _⟩
      · exact h
      · omega
    refine wpList_nil ?_
    refine hk3 _ _ ?_
    clear hk3 k3
    replace hA := hA.keep (.cons (i := 1) rfl (.cons (i := 2) rfl (.cons (i := 3) rfl (.cons (i := 6) rfl .nil))))
    refine wp_cond_false (hA.ev rfl) ?_
    refine wp_skip ?_
    refine hk2 _ _ ?_
    clear hk2 k2
    replace hA := hA.keep (.cons (i := 1) rfl (.cons (i := 2) rfl (.cons (i := 3) rfl .nil)))
    refine wp_seq_k fun k5 hk5 => ?_
    refine wp_seq_k fun k6 hk6 => ?_
    refine wp_region_lit ?_
    refine go1 hA rfl rfl rfl (r_field (hA.ev rfl) T.fo24_0) ?_; clear hA a; intro a hA
    refine go1 hA rfl rfl rfl (r_load (hA.ev rfl) T.fl3 (by first | exact hS.cell rfl | exact (hS.p 1).cell rfl | exact (hS.p 2).cell rfl)) ?_; clear hA a; intro a hA
    refine go1s hA rfl rfl rfl (r_neq (hA.ev rfl) (hA.ev rfl)) ?_ ?_
    · clear hA a; intro h10 a hA
      refine go1 hA rfl rfl rfl (r_move (hA.ev rfl)) ?_; clear hA a; intro a hA
      refine go1y hA (wanted_yes hA rfl rfl rfl) rfl rfl (r_field (hA.ev rfl) T.fo24_0) ?_; clear hA a; intro a hA
      refine go1y hA (wanted_yes hA rfl rfl rfl) rfl rfl (r_load (hA.ev rfl) T.fl3 (by first | exact hS.cell rfl | exact (hS.p 1).cell rfl | exact (hS.p 2).cell rfl)) ?_; clear hA a; intro a hA
      refine go1sy hA (wanted_yes hA rfl rfl rfl) rfl rfl (r_neq (hA.ev rfl) (hA.ev rfl)) ?_ ?_
      · clear hA a; intro h14 a hA
        refine go1 hA rfl rfl rfl (r_pick_t (hA.ev rfl) (hA.ev rfl)) ?_; clear hA a; intro a hA
        refine wpList_nil ?_
        refine hk6 _ _ ?_
        clear hk6 k6
        replace hA := hA.keep (.cons (i := 1) rfl (.cons (i := 2) rfl (.cons (i := 3) rfl (.cons (i := 15) rfl .nil))))
        refine wp_cond_true (hA.ev rfl) ?_
        refine wp_seq_k fun k7 hk7 => ?_
        refine wp_region_lit ?_
        refine go1 hA rfl rfl rfl (r_build hA rfl T.bd24_) ?_; clear hA a; intro a hA
        first | refine goWS2 (vs := [_, _, _, _, _, _]) (cs' := [_, _, _, _, _, _]) hA rfl rfl T.sz24 (by simp [Value.oneCell']) hS rfl rfl ?_ | refine goWS2 (vs := [_, _, _, _, _, _]) (cs' := [_, _, _, _, _, _]) hA rfl rfl T.sz24 (by simp [Value.oneCell']) (hS.p 1) rfl rfl ?_ | refine goWS2 (vs := [_, _, _, _, _, _]) (cs' := [_, _, _, _, _, _]) hA rfl rfl T.sz24 (by simp [Value.oneCell']) (hS.p 2) rfl rfl ?_
        clear hS; intro w hS
        refine go1 hA rfl rfl rfl (r_assign (hA.ev rfl)) ?_; clear hA a; intro a hA
        refine wpList_nil ?_
        refine hk7 _ _ ?_
        clear hk7 k7
        replace hA := hA.keep (.cons (i := 1) rfl (.cons (i := 2) rfl (.cons (i := 3) rfl .nil)))
        refine wp_ret ?_
        refine then_ret ?_; clear hk5 k5
        refine endR2 hA rfl (resS (cs := [_, _, _, _, _, _]) hA rfl T.ag24 T.sz24 (by first | exact hS.cellsAt (xs := [_, _, _, _, _, _]) rfl | exact (hS.p 1).cellsAt (xs := [_, _, _, _, _, _]) rfl | exact (hS.p 2).cellsAt (xs := [_, _, _, _, _, _]) rfl)) (resT hA rfl) ?_
        exact ⟨_, _, _, _, _, rfl, .inr (.inl ⟨hF, by omega, rfl, rfl, rfl, rfl, rfl⟩), hS.nil⟩
      · clear hA a; intro h14 a hA
        refine go1 hA rfl rfl rfl (r_pick_t (hA.ev rfl) (hA.ev rfl)) ?_; clear hA a; intro a hA
        refine wpList_nil ?_
        refine hk6 _ _ ?_
        clear hk6 k6
        replace hA := hA.keep (.cons (i := 1) rfl (.cons (i := 2) rfl (.cons (i := 3) rfl (.cons (i := 15) rfl .nil))))
        refine wp_cond_false (hA.ev rfl) ?_
        refine wp_skip ?_
        refine hk5 _ _ ?_
        clear hk5 k5
        replace hA := hA.keep (.cons (i := 1) rfl (.cons (i := 2) rfl (.cons (i := 3) rfl .nil)))
        refine wp_seq_k fun k8 hk8 => ?_
        refine wp_region_lit ?_
        refine go1 hA rfl rfl rfl (r_field (hA.ev rfl) T.fo24_2) ?_; clear hA a; intro a hA
        refine go1 hA rfl rfl rfl (r_load (hA.ev rfl) T.fl3 (by first | exact hS.cell rfl | exact (hS.p 1).cell rfl | exact (hS.p 2).cell rfl)) ?_; clear hA a; intro a hA
        refine go1 hA rfl rfl rfl (r_field (hA.ev rfl) T.fo24_1) ?_; clear hA a; intro a hA
        refine go1 hA rfl rfl rfl (r_load (hA.ev rfl) T.fl3 (by first | exact hS.cell rfl | exact (hS.p 1).cell rfl | exact (hS.p 2).cell rfl)) ?_; clear hA a; intro a hA
        refine go1 hA rfl rfl rfl (r_field (hA.ev rfl) T.fo24_4) ?_; clear hA a; intro a hA
        refine go1 hA rfl rfl rfl (r_load (hA.ev rfl) T.fl3 (by first | exact hS.cell rfl | exact (hS.p 1).cell rfl | exact (hS.p 2).cell rfl)) ?_; clear hA a; intro a hA
        refine go1 hA rfl rfl rfl (r_build hA rfl T.bd24_0_1_2_4) ?_; clear hA a; intro a hA
        first | refine goWS2 (vs := [_, _, _, _, _, _]) (cs' := [_, _, _, _, _, _]) hA rfl rfl T.sz24 (by simp [Value.oneCell']) hS rfl rfl ?_ | refine goWS2 (vs := [_, _, _, _, _, _]) (cs' := [_, _, _, _, _, _]) hA rfl rfl T.sz24 (by simp [Value.oneCell']) (hS.p 1) rfl rfl ?_ | refine goWS2 (vs := [_, _, _, _, _, _]) (cs' := [_, _, _, _, _, _]) hA rfl rfl T.sz24 (by simp [Value.oneCell']) (hS.p 2) rfl rfl ?_
        clear hS; intro w hS
        refine go1 hA rfl rfl rfl (r_assign (hA.ev rfl)) ?_; clear hA a; intro a hA
        refine wpList_nil ?_
        refine hk8 _ _ ?_
        clear hk8 k8
        replace hA := hA.keep (.cons (i := 2) rfl (.cons (i := 3) rfl .nil))
        refine wp_ret ?_
        refine endR2 hA rfl (resS (cs := [_, _, _, _, _, _]) hA rfl T.ag24 T.sz24 (by first | exact hS.cellsAt (xs := [_, _, _, _, _, _]) rfl | exact (hS.p 1).cellsAt (xs := [_, _, _, _, _, _]) rfl | exact (hS.p 2).cellsAt (xs := [_, _, _, _, _, _]) rfl)) (resT hA rfl) ?_
        exact ⟨_, _, _, _, _, rfl, .inr (.inr ⟨hF, by omega, rfl, rfl, rfl, rfl, rfl⟩), hS.nil⟩
    · clear hA a; intro h10 a hA
      refine go1 hA rfl rfl rfl (r_move (hA.ev rfl)) ?_; clear hA a; intro a hA
      refine goS hA (wanted_no hA rfl rfl rfl rfl) rfl rfl ?_; clear hA a; intro a hA
      refine goS hA (wanted_no hA rfl rfl rfl rfl) rfl rfl ?_; clear hA a; intro a hA
      refine goS hA (wanted_no hA rfl rfl rfl rfl) rfl rfl ?_; clear hA a; intro a hA
      refine go1 hA rfl rfl rfl (r_pick_f (hA.ev rfl) (hA.ev rfl)) ?_; clear hA a; intro a hA
      refine wpList_nil ?_
      refine hk6 _ _ ?_
      clear hk6 k6
      replace hA := hA.keep (.cons (i := 1) rfl (.cons (i := 2) rfl (.cons (i := 3) rfl (.cons (i := 15) rfl .nil))))
      refine wp_cond_false (hA.ev rfl) ?_
      refine wp_skip ?_
      refine hk5 _ _ ?_
      clear hk5 k5
      replace hA := hA.keep (.cons (i := 1) rfl (.cons (i := 2) rfl (.cons (i := 3) rfl .nil)))
      refine wp_seq_k fun k9 hk9 => ?_
      refine wp_region_lit ?_
      refine go1 hA rfl rfl rfl (r_field (hA.ev rfl) T.fo24_2) ?_; clear hA a; intro a hA
      refine go1 hA rfl rfl rfl (r_load (hA.ev rfl) T.fl3 (by first | exact hS.cell rfl | exact (hS.p 1).cell rfl | exact (hS.p 2).cell rfl)) ?_; clear hA a; intro a hA
      refine go1 hA rfl rfl rfl (r_field (hA.ev rfl) T.fo24_1) ?_; clear hA a; intro a hA
      refine go1 hA rfl rfl rfl (r_load (hA.ev rfl) T.fl3 (by first | exact hS.cell rfl | exact (hS.p 1).cell rfl | exact (hS.p 2).cell rfl)) ?_; clear hA a; intro a hA
      refine go1 hA rfl rfl rfl (r_field (hA.ev rfl) T.fo24_4) ?_; clear hA a; intro a hA
      refine go1 hA rfl rfl rfl (r_load (hA.ev rfl) T.fl3 (by first | exact hS.cell rfl | exact (hS.p 1).cell rfl | exact (hS.p 2).cell rfl)) ?_; clear hA a; intro a hA
      refine go1 hA rfl rfl rfl (r_build hA rfl T.bd24_0_1_2_4) ?_; clear hA a; intro a hA
      first | refine goWS2 (vs := [_, _, _, _, _, _]) (cs' := [_, _, _, _, _, _]) hA rfl rfl T.sz24 (by simp [Value.oneCell']) hS rfl rfl ?_ | refine goWS2 (vs := [_, _, _, _, _, _]) (cs' := [_, _, _, _, _, _]) hA rfl rfl T.sz24 (by simp [Value.oneCell']) (hS.p 1) rfl rfl ?_ | refine goWS2 (vs := [_, _, _, _, _, _]) (cs' := [_, _, _, _, _, _]) hA rfl rfl T.sz24 (by simp [Value.oneCell']) (hS.p 2) rfl rfl ?_
      clear hS; intro w hS
      refine go1 hA rfl rfl rfl (r_assign (hA.ev rfl)) ?_; clear hA a; intro a hA
      refine wpList_nil ?_
      refine hk9 _ _ ?_
      clear hk9 k9
      replace hA := hA.keep (.cons (i := 2) rfl (.cons (i := 3) rfl .nil))
      refine wp_ret ?_
      refine endR2 hA rfl (resS (cs := [_, _, _, _, _, _]) hA rfl T.ag24 T.sz24 (by first | exact hS.cellsAt (xs := [_, _, _, _, _, _]) rfl | exact (hS.p 1).cellsAt (xs := [_, _, _, _, _, _]) rfl | exact (hS.p 2).cellsAt (xs := [_, _, _, _, _, _]) rfl)) (resT hA rfl) ?_
      exact ⟨_, _, _, _, _, rfl, .inr (.inr ⟨hF, by omega, rfl, rfl, rfl, rfl, rfl⟩), hS.nil⟩
end Go.Proofs.Ytfbdcllbgfohdaa.Wm
