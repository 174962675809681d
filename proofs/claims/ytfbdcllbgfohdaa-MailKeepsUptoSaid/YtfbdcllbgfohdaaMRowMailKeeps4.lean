/- Texts of our own that a row leans on, put together: WkMail2, PWire, PWire2, PWire5, PWire3, PMail, K26, PMail2, PMail3, WkWire10, PWire6, PWire7, WkWire11. No condition of their own. -/
import Derived.Test.YtfbdcllbgfohdaaMRowMailKeeps3
set_option linter.unusedVariables false
set_option linter.unusedSimpArgs false
namespace Go.Proofs.Ytfbdcllbgfohdaa.Wm
open Go Go.RowKit Go.Proofs.Ytfbdcllbgfohdaa Go.Proofs.Ytfbdcllbgfohdaa.K
theorem byte_at {xs : List Int} {i : Nat} {x : Int} (h : xs[i]? = some x) : (xs.map (Value.int .u8))[i * 1]? = some (.int .u8 x) := by
 rw [Nat.mul_one, List.getElem?_map, h]; rfl
def Bodies (W : World) (ps : List PartD) : Prop := ∀ p ∈ ps, Rd W 1 (.slice p.A p.b.length p.c) p.b.length (p.b.map (Value.int .u8)) ∧ p.b.length ≤ 140737488355328
theorem Bodies.sat {W w : World} {L : List As} {ps : List PartD} (h : Bodies W ps) (s : Sat W w L) : Bodies w ps := fun p hp => ⟨(h p hp).1.sat s, (h p hp).2⟩
def key (p : PartD) : Int × List Int := (p.cart, p.b)
def Same (ps qs : List PartD) : Prop := ps.map key = qs.map key
theorem rd_none (W : World) (sz : Nat) : Rd W sz (.slice none 0 0) 0 [] := ⟨none, 0, rfl, Nat.le_refl _, by simp, .inl rfl⟩
set_option maxRecDepth 100000 in
theorem EqualBytes_calls (W : World) (A : Option Addr) (c : Nat) (xs : List Int) (A2 : Option Addr) (c2 : Nat) (ys : List Int) (hX : Rd W 1 (.slice A xs.length c) xs.length (xs.map (Value.int .u8))) (hY : Rd W 1 (.slice A2 ys.length c2) ys.length (ys.map (Value.int .u8))) (hx : xs.length ≤ 140737488355328) (hy : ys.length ≤ 140737488355328) : Calls Try.prog 23 #[.slice A xs.length c, .slice A2 ys.length c2] W fun e w' => e = .returned (.bool (decide (xs = ys))) ∧ Sat W w' [] := by
 refine enter Try.func23 rfl rfl rfl (.cons (i := 0) rfl (.cons (i := 1) rfl .nil)) ?_
 intro a hA
 have hS := Sat.start W
 refine wp_seq_k fun k1 hk1 => ?_
 refine wp_region_lit ?_
 refine go1 hA rfl rfl rfl (r_assign (hA.ev rfl)) ?_; clear hA a; intro a hA
 refine wpList_nil ?_
 refine hk1 _ _ ?_
 clear hk1 k1
 refine wp_seq_k fun k2 hk2 => ?_
 refine wp_seq_k fun k3 hk3 => ?_
 refine wp_region_lit ?_
 refine go1 hA rfl rfl rfl (r_move (hA.ev rfl)) ?_; clear hA a; intro a hA
 refine go1 hA rfl rfl rfl (r_lens (hA.ev rfl) T.un34) ?_; clear hA a; intro a hA
 refine go1 hA rfl rfl rfl (r_move (hA.ev rfl)) ?_; clear hA a; intro a hA
 refine go1 hA rfl rfl rfl (r_lens (hA.ev rfl) T.un34) ?_; clear hA a; intro a hA
 refine go1s hA rfl rfl rfl (r_neq (hA.ev rfl) (hA.ev rfl)) ?_ ?_
 ·
  clear hA a; intro h10 a hA
  refine wpList_nil ?_
  refine hk3 _ _ ?_
  clear hk3 k3
  replace hA := hA.keep (.cons (i := 0) rfl (.cons (i := 1) rfl (.cons (i := 4) rfl (.cons (i := 10) rfl .nil))))
  refine wp_cond_true (hA.ev rfl) ?_
  refine wp_seq_k fun k4 hk4 => ?_
  refine wp_region_lit ?_
  refine go1 hA rfl rfl rfl (r_assign (hA.ev rfl)) ?_; clear hA a; intro a hA
  refine wpList_nil ?_
  refine hk4 _ _ ?_
  clear hk4 k4
  replace hA := hA.keep (.cons (i := 0) rfl (.cons (i := 1) rfl (.cons (i := 4) rfl .nil)))
  refine wp_ret ?_
  refine then_ret ?_; clear hk2 k2
  refine end1 hA rfl rfl ?_
  rw [show decide (xs = ys) = false from decide_eq_false (fun h => by subst h; omega)]
  exact ⟨rfl, hS⟩
 ·
  clear hA a; intro h10 a hA
  refine wpList_nil ?_
  refine hk3 _ _ ?_
  clear hk3 k3
  replace hA := hA.keep (.cons (i := 0) rfl (.cons (i := 1) rfl (.cons (i := 4) rfl (.cons (i := 10) rfl .nil))))
  refine wp_cond_false (hA.ev rfl) ?_
  refine wp_skip ?_
  refine hk2 _ _ ?_
  clear hk2 k2
  replace hA := hA.keep (.cons (i := 0) rfl (.cons (i := 1) rfl (.cons (i := 4) rfl .nil)))
  refine wp_seq_k fun k5 hk5 => ?_
  refine wp_seq_k fun k6 hk6 => ?_
  refine wp_region_lit ?_
  refine go1 hA rfl rfl rfl (r_assign (hA.ev rfl)) ?_; clear hA a; intro a hA
  refine wpList_nil ?_
  refine hk6 _ _ ?_
  clear hk6 k6
  refine wp_block ?_
  refine wp_loop_ghost (fun (mm : Nat) a w => ∃ i : Int, Ag a 26 [(0, .slice A xs.length c), (1, .slice A2 ys.length c2), (5, .int .i64 i)] ∧ Sat W w [] ∧ 0 ≤ i ∧ i ≤ xs.length ∧ mm = (xs.length - i).toNat ∧ ∀ j : Nat, (j : Int) < i → xs[j]? = ys[j]?) xs.length ?_ ?_
  ·
   replace hA := hA.keep (.cons (i := 0) rfl (.cons (i := 1) rfl (.cons (i := 5) rfl .nil)))
   exact ⟨0, hA, hS, by omega, by omega, by omega, fun j hj => by omega⟩
  intro m a w hI
  obtain ⟨i, hA, hS, hi0, hi1, rfl, hG⟩ := hI
  refine wp_seq_k fun k7 hk7 => ?_
  refine wp_seq_k fun k8 hk8 => ?_
  refine wp_region_lit ?_
  refine go1 hA rfl rfl rfl (r_move (hA.ev rfl)) ?_; clear hA a; intro a hA
  refine go1 hA rfl rfl rfl (r_move (hA.ev rfl)) ?_; clear hA a; intro a hA
  refine go1 hA rfl rfl rfl (r_lens (hA.ev rfl) T.un34) ?_; clear hA a; intro a hA
  refine go1s hA rfl rfl rfl (r_lss (hA.ev rfl) (hA.ev rfl)) ?_ ?_
  ·
   clear hA a; intro h14 a hA
   obtain ⟨p0, rfl⟩ : ∃ p, A = some p := hX.hasAddr (by omega)
   obtain ⟨q0, rfl⟩ : ∃ p, A2 = some p := hY.hasAddr (by omega)
   obtain ⟨x, hxi⟩ : ∃ x, xs[i.toNat]? = some x := ⟨_, List.getElem?_eq_getElem (by omega)⟩
   obtain ⟨y, hyi⟩ : ∃ y, ys[i.toNat]? = some y := ⟨_, List.getElem?_eq_getElem (by omega)⟩
   refine wpList_nil ?_
   refine hk8 _ _ ?_
   clear hk8 k8
   refine wp_cond_true (hA.ev rfl) ?_
   refine wp_skip ?_
   refine hk7 _ _ ?_
   clear hk7 k7
   refine wp_seq_k fun k9 hk9 => ?_
   refine wp_block ?_
   refine wp_seq_k fun k10 hk10 => ?_
   refine qEnter (fun w' => Sat _ w' _) (by kernel_rfl) (by kernel_rfl) hS.drew ?_
   refine K.q1 hA rfl rfl rfl (fun w hS => (r_move (hA.ev rfl))) ?_; clear hA a; intro a hA
   refine K.q1 hA rfl rfl rfl (fun w hS => (r_move (hA.ev rfl))) ?_; clear hA a; intro a hA
   refine K.q1 hA rfl rfl rfl (fun w hS => (r_index (hA.ev rfl) (hA.ev rfl) T.un34 T.sz5 (by omega) (by omega))) ?_; clear hA a; intro a hA
   refine K.q1 hA rfl rfl rfl (fun w hS => (r_load (hA.ev rfl) T.fl5 ((hX.sat hS).cell (byte_at hxi)))) ?_; clear hA a; intro a hA
   refine K.q1 hA rfl rfl rfl (fun w hS => (r_move (hA.ev rfl))) ?_; clear hA a; intro a hA
   refine K.q1 hA rfl rfl rfl (fun w hS => (r_move (hA.ev rfl))) ?_; clear hA a; intro a hA
   refine K.q1 hA rfl rfl rfl (fun w hS => (r_index (hA.ev rfl) (hA.ev rfl) T.un34 T.sz5 (by omega) (by omega))) ?_; clear hA a; intro a hA
   refine K.q1 hA rfl rfl rfl (fun w hS => (r_load (hA.ev rfl) T.fl5 ((hY.sat hS).cell (byte_at hyi)))) ?_; clear hA a; intro a hA
   refine K.q1s hA rfl rfl rfl (fun w hS => (r_neq (hA.ev rfl) (hA.ev rfl))) ?_ ?_
   ·
    clear hA a; intro h25 a hA
    refine wpQuiet_nil ?_
    clear hS; intro w hS
    refine hk10 _ _ ?_
    clear hk10 k10
    refine wp_cond_true (hA.ev rfl) ?_
    refine wp_seq_k fun k11 hk11 => ?_
    refine wp_region_lit ?_
    refine go1 hA rfl rfl rfl (r_assign (hA.ev rfl)) ?_; clear hA a; intro a hA
    refine wpList_nil ?_
    refine hk11 _ _ ?_
    clear hk11 k11
    refine wp_ret ?_
    refine block_ret ?_
    refine then_ret ?_; clear hk9 k9
    refine then_ret ?_
    refine block_ret ?_
    refine then_ret ?_; clear hk5 k5
    refine end1 hA rfl rfl ?_
    rw [show decide (xs = ys) = false from decide_eq_false (fun h => by subst h; rw [hxi] at hyi; cases hyi; omega)]
    exact ⟨rfl, hS⟩
   ·
    clear hA a; intro h25 a hA
    refine wpQuiet_nil ?_
    clear hS; intro w hS
    refine hk10 _ _ ?_
    clear hk10 k10
    refine wp_cond_false (hA.ev rfl) ?_
    refine wp_skip ?_
    refine block_normal ?_
    refine hk9 _ _ ?_
    clear hk9 k9
    refine wp_region_lit ?_
    refine go1 hA rfl rfl rfl (r_move (hA.ev rfl)) ?_; clear hA a; intro a hA
    refine go1 hA rfl rfl rfl (r_add64 (hA.ev rfl) (hA.ev rfl) (by omega) (by omega)) ?_; clear hA a; intro a hA
    refine go1 hA rfl rfl rfl (r_assign (hA.ev rfl)) ?_; clear hA a; intro a hA
    refine wpList_nil ?_
    replace hA := hA.keep (.cons (i := 0) rfl (.cons (i := 1) rfl (.cons (i := 5) rfl .nil)))
    refine ⟨(xs.length - (i + 1)).toNat, by omega, i + 1, hA, hS, by omega, by omega, rfl, fun j hj => ?_⟩
    by_cases hji : (j : Int) < i
    ·
     exact hG j hji
    ·
     obtain rfl : j = i.toNat := by omega
     rw [hxi, hyi, show x = y from by omega]
  ·
   clear hA a; intro h14 a hA
   refine wpList_nil ?_
   refine hk8 _ _ ?_
   clear hk8 k8
   refine wp_cond_false (hA.ev rfl) ?_
   refine wp_exit ?_
   refine then_exit ?_; clear hk7 k7
   refine then_exit ?_
   refine block_hit ?_
   refine hk5 _ _ ?_
   clear hk5 k5
   replace hA := hA.keep .nil
   refine wp_seq_k fun k12 hk12 => ?_
   refine wp_region_lit ?_
   refine go1 hA rfl rfl rfl (r_assign (hA.ev rfl)) ?_; clear hA a; intro a hA
   refine wpList_nil ?_
   refine hk12 _ _ ?_
   clear hk12 k12
   refine wp_ret ?_
   refine end1 hA rfl rfl ?_
   have hE : xs = ys := by
    refine List.ext_getElem? fun j => ?_
    by_cases hj : (j : Int) < i
    ·
     exact hG j hj
    ·
     rw [List.getElem?_eq_none (by omega), List.getElem?_eq_none (by omega)]
   rw [show decide (xs = ys) = true from decide_eq_true hE]
   exact ⟨rfl, hS⟩
set_option maxRecDepth 100000 in
theorem Equal_calls (W : World) (k f t lo hi : Int) (A : Option Addr) (c : Nat) (ps : List PartD) (k2 f2 t2 lo2 hi2 : Int) (A2 : Option Addr) (c2 : Nat) (qs : List PartD) (hR : Rd W 2 (.slice A ps.length c) ps.length (ps.flatMap encP)) (hlen : ps.length ≤ 140737488355328) (hR2 : Rd W 2 (.slice A2 qs.length c2) qs.length (qs.flatMap encP)) (hlen2 : qs.length ≤ 140737488355328) (hB : Bodies W ps) (hB2 : Bodies W qs) : Calls Try.prog 15 #[.agg #[.int .i64 k, .int .i64 f, .int .i64 t, .int .i64 lo, .int .i64 hi, .slice A ps.length c], .agg #[.int .i64 k2, .int .i64 f2, .int .i64 t2, .int .i64 lo2, .int .i64 hi2, .slice A2 qs.length c2]] W fun e w' => ∃ b, e = .returned (.bool b) ∧ (b = true ↔ k = k2 ∧ f = f2 ∧ t = t2 ∧ lo = lo2 ∧ hi = hi2 ∧ Same ps qs) ∧ Sat W w' [] := by
 refine enter Try.func15 rfl rfl rfl (.cons (i := 0) rfl (.cons (i := 1) rfl .nil)) ?_
 intro a hA
 have hS := Sat.start W
 refine wp_seq_k fun k1 hk1 => ?_
 refine wp_region_lit ?_
 refine goB hA rfl rfl hS ?_
 clear hA a hS; intro b2 w hS a hA
 refine goB hA rfl rfl hS ?_
 clear hA a hS; intro b3 w hS a hA
 refine go1 hA rfl rfl rfl (r_assign (hA.ev rfl)) ?_; clear hA a; intro a hA
 refine wpList_nil ?_
 refine hk1 _ _ ?_
 clear hk1 k1
 replace hA := hA.keep (.cons (i := 2) rfl (.cons (i := 3) rfl (.cons (i := 4) rfl .nil)))
 refine wp_seq_k fun k2 hk2 => ?_
 refine wp_seq_k fun k3 hk3 => ?_
 refine wp_region_lit ?_
 refine go1 hA rfl rfl rfl (r_field (hA.ev rfl) T.fo24_0) ?_; clear hA a; intro a hA
 refine go1 hA rfl rfl rfl (r_load (hA.ev rfl) T.fl3 (by exact (hS.p 1).cell rfl)) ?_; clear hA a; intro a hA
 refine go1 hA rfl rfl rfl (r_field (hA.ev rfl) T.fo24_0) ?_; clear hA a; intro a hA
 refine go1 hA rfl rfl rfl (r_load (hA.ev rfl) T.fl3 (by exact hS.cell rfl)) ?_; clear hA a; intro a hA
 refine go1s hA rfl rfl rfl (r_neq (hA.ev rfl) (hA.ev rfl)) ?_ ?_
 ·
  clear hA a; intro h10 a hA
  refine go1 hA rfl rfl rfl (r_move (hA.ev rfl)) ?_; clear hA a; intro a hA
  refine goS hA (wanted_no hA rfl rfl rfl rfl) rfl rfl ?_; clear hA a; intro a hA
  refine goS hA (wanted_no hA rfl rfl rfl rfl) rfl rfl ?_; clear hA a; intro a hA
  refine goS hA (wanted_no hA rfl rfl rfl rfl) rfl rfl ?_; clear hA a; intro a hA
  refine goS hA (wanted_no hA rfl rfl rfl rfl) rfl rfl ?_; clear hA a; intro a hA
  refine goS hA (wanted_no hA rfl rfl rfl rfl) rfl rfl ?_; clear hA a; intro a hA
  refine go1 hA rfl rfl rfl (r_pick_t (hA.ev rfl) (hA.ev rfl)) ?_; clear hA a; intro a hA
  refine go1 hA rfl rfl rfl (r_move (hA.ev rfl)) ?_; clear hA a; intro a hA
  refine goS hA (wanted_no hA rfl rfl rfl rfl) rfl rfl ?_; clear hA a; intro a hA
  refine goS hA (wanted_no hA rfl rfl rfl rfl) rfl rfl ?_; clear hA a; intro a hA
  refine goS hA (wanted_no hA rfl rfl rfl rfl) rfl rfl ?_; clear hA a; intro a hA
  refine goS hA (wanted_no hA rfl rfl rfl rfl) rfl rfl ?_; clear hA a; intro a hA
  refine goS hA (wanted_no hA rfl rfl rfl rfl) rfl rfl ?_; clear hA a; intro a hA
  refine go1 hA rfl rfl rfl (r_pick_t (hA.ev rfl) (hA.ev rfl)) ?_; clear hA a; intro a hA
  refine go1 hA rfl rfl rfl (r_move (hA.ev rfl)) ?_; clear hA a; intro a hA
  refine goS hA (wanted_no hA rfl rfl rfl rfl) rfl rfl ?_; clear hA a; intro a hA
  refine goS hA (wanted_no hA rfl rfl rfl rfl) rfl rfl ?_; clear hA a; intro a hA
  refine goS hA (wanted_no hA rfl rfl rfl rfl) rfl rfl ?_; clear hA a; intro a hA
  refine goS hA (wanted_no hA rfl rfl rfl rfl) rfl rfl ?_; clear hA a; intro a hA
  refine goS hA (wanted_no hA rfl rfl rfl rfl) rfl rfl ?_; clear hA a; intro a hA
  refine go1 hA rfl rfl rfl (r_pick_t (hA.ev rfl) (hA.ev rfl)) ?_; clear hA a; intro a hA
  refine go1 hA rfl rfl rfl (r_move (hA.ev rfl)) ?_; clear hA a; intro a hA
  refine goS hA (wanted_no hA rfl rfl rfl rfl) rfl rfl ?_; clear hA a; intro a hA
  refine goS hA (wanted_no hA rfl rfl rfl rfl) rfl rfl ?_; clear hA a; intro a hA
  refine goS hA (wanted_no hA rfl rfl rfl rfl) rfl rfl ?_; clear hA a; intro a hA
  refine goS hA (wanted_no hA rfl rfl rfl rfl) rfl rfl ?_; clear hA a; intro a hA
  refine goS hA (wanted_no hA rfl rfl rfl rfl) rfl rfl ?_; clear hA a; intro a hA
  refine go1 hA rfl rfl rfl (r_pick_t (hA.ev rfl) (hA.ev rfl)) ?_; clear hA a; intro a hA
  refine go1 hA rfl rfl rfl (r_move (hA.ev rfl)) ?_; clear hA a; intro a hA
  refine goS hA (wanted_no hA rfl rfl rfl rfl) rfl rfl ?_; clear hA a; intro a hA
  refine goS hA (wanted_no hA rfl rfl rfl rfl) rfl rfl ?_; clear hA a; intro a hA
  refine goS hA (wanted_no hA rfl rfl rfl rfl) rfl rfl ?_; clear hA a; intro a hA
  refine goS hA (wanted_no hA rfl rfl rfl rfl) rfl rfl ?_; clear hA a; intro a hA
  refine goS hA (wanted_no hA rfl rfl rfl rfl) rfl rfl ?_; clear hA a; intro a hA
  refine goS hA (wanted_no hA rfl rfl rfl rfl) rfl rfl ?_; clear hA a; intro a hA
  refine goS hA (wanted_no hA rfl rfl rfl rfl) rfl rfl ?_; clear hA a; intro a hA
  refine go1 hA rfl rfl rfl (r_pick_t (hA.ev rfl) (hA.ev rfl)) ?_; clear hA a; intro a hA
  refine wpList_nil ?_
  refine hk3 _ _ ?_
  clear hk3 k3
  replace hA := hA.keep (.cons (i := 2) rfl (.cons (i := 3) rfl (.cons (i := 4) rfl (.cons (i := 47) rfl .nil))))
  refine wp_cond_true (hA.ev rfl) ?_
  refine wp_seq_k fun k4 hk4 => ?_
  refine wp_region_lit ?_
  refine go1 hA rfl rfl rfl (r_assign (hA.ev rfl)) ?_; clear hA a; intro a hA
  refine wpList_nil ?_
  refine hk4 _ _ ?_
  clear hk4 k4
  replace hA := hA.keep (.cons (i := 2) rfl (.cons (i := 3) rfl (.cons (i := 4) rfl .nil)))
  refine wp_ret ?_
  refine then_ret ?_; clear hk2 k2
  refine end1 hA rfl rfl ?_
  first | (refine ⟨_, rfl, ⟨(fun h => by cases h), (fun h => ?_)⟩, hS.nil⟩; obtain ⟨e1, e2, e3, e4, e5, e6⟩ := h; have e7 := congrArg List.length e6; simp only [List.length_map] at e7; omega) | (refine ⟨_, rfl, ⟨(fun h => by cases h), (fun h => ?_)⟩, hS.nil⟩; obtain ⟨e1, e2, e3, e4, e5, e6⟩ := h; have e7 := congrArg (fun l => l[i.toNat]?) e6; simp only [List.getElem?_map, hp, hq, Option.map_some, Option.some.injEq, key, Prod.mk.injEq] at e7; first | omega | simp_all) | (refine ⟨_, rfl, ⟨(fun _ => ⟨by omega, by omega, by omega, by omega, by omega, ?_⟩), (fun _ => rfl)⟩, hS.nil⟩; refine List.ext_getElem? fun j => ?_; rw [List.getElem?_map, List.getElem?_map]; by_cases hj : (j : Int) < i; exact hG j hj; rw [List.getElem?_eq_none (by omega), List.getElem?_eq_none (by omega)])
 ·
  clear hA a; intro h10 a hA
  refine go1 hA rfl rfl rfl (r_move (hA.ev rfl)) ?_; clear hA a; intro a hA
  refine go1y hA (wanted_yes hA rfl rfl rfl) rfl rfl (r_field (hA.ev rfl) T.fo24_1) ?_; clear hA a; intro a hA
  refine go1y hA (wanted_yes hA rfl rfl rfl) rfl rfl (r_load (hA.ev rfl) T.fl3 (by exact (hS.p 1).cell rfl)) ?_; clear hA a; intro a hA
  refine go1y hA (wanted_yes hA rfl rfl rfl) rfl rfl (r_field (hA.ev rfl) T.fo24_1) ?_; clear hA a; intro a hA
  refine go1y hA (wanted_yes hA rfl rfl rfl) rfl rfl (r_load (hA.ev rfl) T.fl3 (by exact hS.cell rfl)) ?_; clear hA a; intro a hA
  refine go1sy hA (wanted_yes hA rfl rfl rfl) rfl rfl (r_neq (hA.ev rfl) (hA.ev rfl)) ?_ ?_
  ·
   clear hA a; intro h16 a hA
   refine go1 hA rfl rfl rfl (r_pick_f (hA.ev rfl) (hA.ev rfl)) ?_; clear hA a; intro a hA
   refine go1 hA rfl rfl rfl (r_move (hA.ev rfl)) ?_; clear hA a; intro a hA
   refine goS hA (wanted_no hA rfl rfl rfl rfl) rfl rfl ?_; clear hA a; intro a hA
   refine goS hA (wanted_no hA rfl rfl rfl rfl) rfl rfl ?_; clear hA a; intro a hA
   refine goS hA (wanted_no hA rfl rfl rfl rfl) rfl rfl ?_; clear hA a; intro a hA
   refine goS hA (wanted_no hA rfl rfl rfl rfl) rfl rfl ?_; clear hA a; intro a hA
   refine goS hA (wanted_no hA rfl rfl rfl rfl) rfl rfl ?_; clear hA a; intro a hA
   refine go1 hA rfl rfl rfl (r_pick_t (hA.ev rfl) (hA.ev rfl)) ?_; clear hA a; intro a hA
   refine go1 hA rfl rfl rfl (r_move (hA.ev rfl)) ?_; clear hA a; intro a hA
   refine goS hA (wanted_no hA rfl rfl rfl rfl) rfl rfl ?_; clear hA a; intro a hA
   refine goS hA (wanted_no hA rfl rfl rfl rfl) rfl rfl ?_; clear hA a; intro a hA
   refine goS hA (wanted_no hA rfl rfl rfl rfl) rfl rfl ?_; clear hA a; intro a hA
   refine goS hA (wanted_no hA rfl rfl rfl rfl) rfl rfl ?_; clear hA a; intro a hA
   refine goS hA (wanted_no hA rfl rfl rfl rfl) rfl rfl ?_; clear hA a; intro a hA
   refine go1 hA rfl rfl rfl (r_pick_t (hA.ev rfl) (hA.ev rfl)) ?_; clear hA a; intro a hA
   refine go1 hA rfl rfl rfl (r_move (hA.ev rfl)) ?_; clear hA a; intro a hA
   refine goS hA (wanted_no hA rfl rfl rfl rfl) rfl rfl ?_; clear hA a; intro a hA
   refine goS hA (wanted_no hA rfl rfl rfl rfl) rfl rfl ?_; clear hA a; intro a hA
   refine goS hA (wanted_no hA rfl rfl rfl rfl) rfl rfl ?_; clear hA a; intro a hA
   refine goS hA (wanted_no hA rfl rfl rfl rfl) rfl rfl ?_; clear hA a; intro a hA
   refine goS hA (wanted_no hA rfl rfl rfl rfl) rfl rfl ?_; clear hA a; intro a hA
   refine go1 hA rfl rfl rfl (r_pick_t (hA.ev rfl) (hA.ev rfl)) ?_; clear hA a; intro a hA
   refine go1 hA rfl rfl rfl (r_move (hA.ev rfl)) ?_; clear hA a; intro a hA
   refine goS hA (wanted_no hA rfl rfl rfl rfl) rfl rfl ?_; clear hA a; intro a hA
   refine goS hA (wanted_no hA rfl rfl rfl rfl) rfl rfl ?_; clear hA a; intro a hA
   refine goS hA (wanted_no hA rfl rfl rfl rfl) rfl rfl ?_; clear hA a; intro a hA
   refine goS hA (wanted_no hA rfl rfl rfl rfl) rfl rfl ?_; clear hA a; intro a hA
   refine goS hA (wanted_no hA rfl rfl rfl rfl) rfl rfl ?_; clear hA a; intro a hA
   refine goS hA (wanted_no hA rfl rfl rfl rfl) rfl rfl ?_; clear hA a; intro a hA
   refine goS hA (wanted_no hA rfl rfl rfl rfl) rfl rfl ?_; clear hA a; intro a hA
   refine go1 hA rfl rfl rfl (r_pick_t (hA.ev rfl) (hA.ev rfl)) ?_; clear hA a; intro a hA
   refine wpList_nil ?_
   refine hk3 _ _ ?_
   clear hk3 k3
   replace hA := hA.keep (.cons (i := 2) rfl (.cons (i := 3) rfl (.cons (i := 4) rfl (.cons (i := 47) rfl .nil))))
   refine wp_cond_true (hA.ev rfl) ?_
   refine wp_seq_k fun k5 hk5 => ?_
   refine wp_region_lit ?_
   refine go1 hA rfl rfl rfl (r_assign (hA.ev rfl)) ?_; clear hA a; intro a hA
   refine wpList_nil ?_
   refine hk5 _ _ ?_
   clear hk5 k5
   replace hA := hA.keep (.cons (i := 2) rfl (.cons (i := 3) rfl (.cons (i := 4) rfl .nil)))
   refine wp_ret ?_
   refine then_ret ?_; clear hk2 k2
   refine end1 hA rfl rfl ?_
   first | (refine ⟨_, rfl, ⟨(fun h => by cases h), (fun h => ?_)⟩, hS.nil⟩; obtain ⟨e1, e2, e3, e4, e5, e6⟩ := h; have e7 := congrArg List.length e6; simp only [List.length_map] at e7; omega) | (refine ⟨_, rfl, ⟨(fun h => by cases h), (fun h => ?_)⟩, hS.nil⟩; obtain ⟨e1, e2, e3, e4, e5, e6⟩ := h; have e7 := congrArg (fun l => l[i.toNat]?) e6; simp only [List.getElem?_map, hp, hq, Option.map_some, Option.some.injEq, key, Prod.mk.injEq] at e7; first | omega | simp_all) | (refine ⟨_, rfl, ⟨(fun _ => ⟨by omega, by omega, by omega, by omega, by omega, ?_⟩), (fun _ => rfl)⟩, hS.nil⟩; refine List.ext_getElem? fun j => ?_; rw [List.getElem?_map, List.getElem?_map]; by_cases hj : (j : Int) < i; exact hG j hj; rw [List.getElem?_eq_none (by omega), List.getElem?_eq_none (by omega)])
  ·
   clear hA a; intro h16 a hA
   refine go1 hA rfl rfl rfl (r_pick_f (hA.ev rfl) (hA.ev rfl)) ?_; clear hA a; intro a hA
   refine go1 hA rfl rfl rfl (r_move (hA.ev rfl)) ?_; clear hA a; intro a hA
   refine go1y hA (wanted_yes hA rfl rfl rfl) rfl rfl (r_field (hA.ev rfl) T.fo24_2) ?_; clear hA a; intro a hA
   refine go1y hA (wanted_yes hA rfl rfl rfl) rfl rfl (r_load (hA.ev rfl) T.fl3 (by exact (hS.p 1).cell rfl)) ?_; clear hA a; intro a hA
   refine go1y hA (wanted_yes hA rfl rfl rfl) rfl rfl (r_field (hA.ev rfl) T.fo24_2) ?_; clear hA a; intro a hA
   refine go1y hA (wanted_yes hA rfl rfl rfl) rfl rfl (r_load (hA.ev rfl) T.fl3 (by exact hS.cell rfl)) ?_; clear hA a; intro a hA
   refine go1sy hA (wanted_yes hA rfl rfl rfl) rfl rfl (r_neq (hA.ev rfl) (hA.ev rfl)) ?_ ?_
   ·
    clear hA a; intro h23 a hA
    refine go1 hA rfl rfl rfl (r_pick_f (hA.ev rfl) (hA.ev rfl)) ?_; clear hA a; intro a hA
    refine go1 hA rfl rfl rfl (r_move (hA.ev rfl)) ?_; clear hA a; intro a hA
    refine goS hA (wanted_no hA rfl rfl rfl rfl) rfl rfl ?_; clear hA a; intro a hA
    refine goS hA (wanted_no hA rfl rfl rfl rfl) rfl rfl ?_; clear hA a; intro a hA
    refine goS hA (wanted_no hA rfl rfl rfl rfl) rfl rfl ?_; clear hA a; intro a hA
    refine goS hA (wanted_no hA rfl rfl rfl rfl) rfl rfl ?_; clear hA a; intro a hA
    refine goS hA (wanted_no hA rfl rfl rfl rfl) rfl rfl ?_; clear hA a; intro a hA
    refine go1 hA rfl rfl rfl (r_pick_t (hA.ev rfl) (hA.ev rfl)) ?_; clear hA a; intro a hA
    refine go1 hA rfl rfl rfl (r_move (hA.ev rfl)) ?_; clear hA a; intro a hA
    refine goS hA (wanted_no hA rfl rfl rfl rfl) rfl rfl ?_; clear hA a; intro a hA
    refine goS hA (wanted_no hA rfl rfl rfl rfl) rfl rfl ?_; clear hA a; intro a hA
    refine goS hA (wanted_no hA rfl rfl rfl rfl) rfl rfl ?_; clear hA a; intro a hA
    refine goS hA (wanted_no hA rfl rfl rfl rfl) rfl rfl ?_; clear hA a; intro a hA
    refine goS hA (wanted_no hA rfl rfl rfl rfl) rfl rfl ?_; clear hA a; intro a hA
    refine go1 hA rfl rfl rfl (r_pick_t (hA.ev rfl) (hA.ev rfl)) ?_; clear hA a; intro a hA
    refine go1 hA rfl rfl rfl (r_move (hA.ev rfl)) ?_; clear hA a; intro a hA
    refine goS hA (wanted_no hA rfl rfl rfl rfl) rfl rfl ?_; clear hA a; intro a hA
    refine goS hA (wanted_no hA rfl rfl rfl rfl) rfl rfl ?_; clear hA a; intro a hA
    refine goS hA (wanted_no hA rfl rfl rfl rfl) rfl rfl ?_; clear hA a; intro a hA
    refine goS hA (wanted_no hA rfl rfl rfl rfl) rfl rfl ?_; clear hA a; intro a hA
    refine goS hA (wanted_no hA rfl rfl rfl rfl) rfl rfl ?_; clear hA a; intro a hA
    refine goS hA (wanted_no hA rfl rfl rfl rfl) rfl rfl ?_; clear hA a; intro a hA
    refine goS hA (wanted_no hA rfl rfl rfl rfl) rfl rfl ?_; clear hA a; intro a hA
    refine go1 hA rfl rfl rfl (r_pick_t (hA.ev rfl) (hA.ev rfl)) ?_; clear hA a; intro a hA
    refine wpList_nil ?_
    refine hk3 _ _ ?_
    clear hk3 k3
    replace hA := hA.keep (.cons (i := 2) rfl (.cons (i := 3) rfl (.cons (i := 4) rfl (.cons (i := 47) rfl .nil))))
    refine wp_cond_true (hA.ev rfl) ?_
    refine wp_seq_k fun k6 hk6 => ?_
    refine wp_region_lit ?_
    refine go1 hA rfl rfl rfl (r_assign (hA.ev rfl)) ?_; clear hA a; intro a hA
    refine wpList_nil ?_
    refine hk6 _ _ ?_
    clear hk6 k6
    replace hA := hA.keep (.cons (i := 2) rfl (.cons (i := 3) rfl (.cons (i := 4) rfl .nil)))
    refine wp_ret ?_
    refine then_ret ?_; clear hk2 k2
    refine end1 hA rfl rfl ?_
    first | (refine ⟨_, rfl, ⟨(fun h => by cases h), (fun h => ?_)⟩, hS.nil⟩; obtain ⟨e1, e2, e3, e4, e5, e6⟩ := h; have e7 := congrArg List.length e6; simp only [List.length_map] at e7; omega) | (refine ⟨_, rfl, ⟨(fun h => by cases h), (fun h => ?_)⟩, hS.nil⟩; obtain ⟨e1, e2, e3, e4, e5, e6⟩ := h; have e7 := congrArg (fun l => l[i.toNat]?) e6; simp only [List.getElem?_map, hp, hq, Option.map_some, Option.some.injEq, key, Prod.mk.injEq] at e7; first | omega | simp_all) | (refine ⟨_, rfl, ⟨(fun _ => ⟨by omega, by omega, by omega, by omega, by omega, ?_⟩), (fun _ => rfl)⟩, hS.nil⟩; refine List.ext_getElem? fun j => ?_; rw [List.getElem?_map, List.getElem?_map]; by_cases hj : (j : Int) < i; exact hG j hj; rw [List.getElem?_eq_none (by omega), List.getElem?_eq_none (by omega)])
   ·
    clear hA a; intro h23 a hA
    refine go1 hA rfl rfl rfl (r_pick_f (hA.ev rfl) (hA.ev rfl)) ?_; clear hA a; intro a hA
    refine go1 hA rfl rfl rfl (r_move (hA.ev rfl)) ?_; clear hA a; intro a hA
    refine go1y hA (wanted_yes hA rfl rfl rfl) rfl rfl (r_field (hA.ev rfl) T.fo24_3) ?_; clear hA a; intro a hA
    refine go1y hA (wanted_yes hA rfl rfl rfl) rfl rfl (r_load (hA.ev rfl) T.fl3 (by exact (hS.p 1).cell rfl)) ?_; clear hA a; intro a hA
    refine go1y hA (wanted_yes hA rfl rfl rfl) rfl rfl (r_field (hA.ev rfl) T.fo24_3) ?_; clear hA a; intro a hA
    refine go1y hA (wanted_yes hA rfl rfl rfl) rfl rfl (r_load (hA.ev rfl) T.fl3 (by exact hS.cell rfl)) ?_; clear hA a; intro a hA
    refine go1sy hA (wanted_yes hA rfl rfl rfl) rfl rfl (r_neq (hA.ev rfl) (hA.ev rfl)) ?_ ?_
    ·
     clear hA a; intro h30 a hA
     refine go1 hA rfl rfl rfl (r_pick_f (hA.ev rfl) (hA.ev rfl)) ?_; clear hA a; intro a hA
     refine go1 hA rfl rfl rfl (r_move (hA.ev rfl)) ?_; clear hA a; intro a hA
     refine goS hA (wanted_no hA rfl rfl rfl rfl) rfl rfl ?_; clear hA a; intro a hA
     refine goS hA (wanted_no hA rfl rfl rfl rfl) rfl rfl ?_; clear hA a; intro a hA
     refine goS hA (wanted_no hA rfl rfl rfl rfl) rfl rfl ?_; clear hA a; intro a hA
     refine goS hA (wanted_no hA rfl rfl rfl rfl) rfl rfl ?_; clear hA a; intro a hA
     refine goS hA (wanted_no hA rfl rfl rfl rfl) rfl rfl ?_; clear hA a; intro a hA
     refine go1 hA rfl rfl rfl (r_pick_t (hA.ev rfl) (hA.ev rfl)) ?_; clear hA a; intro a hA
     refine go1 hA rfl rfl rfl (r_move (hA.ev rfl)) ?_; clear hA a; intro a hA
     refine goS hA (wanted_no hA rfl rfl rfl rfl) rfl rfl ?_; clear hA a; intro a hA
     refine goS hA (wanted_no hA rfl rfl rfl rfl) rfl rfl ?_; clear hA a; intro a hA
     refine goS hA (wanted_no hA rfl rfl rfl rfl) rfl rfl ?_; clear hA a; intro a hA
     refine goS hA (wanted_no hA rfl rfl rfl rfl) rfl rfl ?_; clear hA a; intro a hA
     refine goS hA (wanted_no hA rfl rfl rfl rfl) rfl rfl ?_; clear hA a; intro a hA
     refine goS hA (wanted_no hA rfl rfl rfl rfl) rfl rfl ?_; clear hA a; intro a hA
     refine goS hA (wanted_no hA rfl rfl rfl rfl) rfl rfl ?_; clear hA a; intro a hA
     refine go1 hA rfl rfl rfl (r_pick_t (hA.ev rfl) (hA.ev rfl)) ?_; clear hA a; intro a hA
     refine wpList_nil ?_
     refine hk3 _ _ ?_
     clear hk3 k3
     replace hA := hA.keep (.cons (i := 2) rfl (.cons (i := 3) rfl (.cons (i := 4) rfl (.cons (i := 47) rfl .nil))))
     refine wp_cond_true (hA.ev rfl) ?_
     refine wp_seq_k fun k7 hk7 => ?_
     refine wp_region_lit ?_
     refine go1 hA rfl rfl rfl (r_assign (hA.ev rfl)) ?_; clear hA a; intro a hA
     refine wpList_nil ?_
     refine hk7 _ _ ?_
     clear hk7 k7
     replace hA := hA.keep (.cons (i := 2) rfl (.cons (i := 3) rfl (.cons (i := 4) rfl .nil)))
     refine wp_ret ?_
     refine then_ret ?_; clear hk2 k2
     refine end1 hA rfl rfl ?_
     first | (refine ⟨_, rfl, ⟨(fun h => by cases h), (fun h => ?_)⟩, hS.nil⟩; obtain ⟨e1, e2, e3, e4, e5, e6⟩ := h; have e7 := congrArg List.length e6; simp only [List.length_map] at e7; omega) | (refine ⟨_, rfl, ⟨(fun h => by cases h), (fun h => ?_)⟩, hS.nil⟩; obtain ⟨e1, e2, e3, e4, e5, e6⟩ := h; have e7 := congrArg (fun l => l[i.toNat]?) e6; simp only [List.getElem?_map, hp, hq, Option.map_some, Option.some.injEq, key, Prod.mk.injEq] at e7; first | omega | simp_all) | (refine ⟨_, rfl, ⟨(fun _ => ⟨by omega, by omega, by omega, by omega, by omega, ?_⟩), (fun _ => rfl)⟩, hS.nil⟩; refine List.ext_getElem? fun j => ?_; rw [List.getElem?_map, List.getElem?_map]; by_cases hj : (j : Int) < i; exact hG j hj; rw [List.getElem?_eq_none (by omega), List.getElem?_eq_none (by omega)])
    ·
     clear hA a; intro h30 a hA
     refine go1 hA rfl rfl rfl (r_pick_f (hA.ev rfl) (hA.ev rfl)) ?_; clear hA a; intro a hA
     refine go1 hA rfl rfl rfl (r_move (hA.ev rfl)) ?_; clear hA a; intro a hA
     refine go1y hA (wanted_yes hA rfl rfl rfl) rfl rfl (r_field (hA.ev rfl) T.fo24_4) ?_; clear hA a; intro a hA
     refine go1y hA (wanted_yes hA rfl rfl rfl) rfl rfl (r_load (hA.ev rfl) T.fl3 (by exact (hS.p 1).cell rfl)) ?_; clear hA a; intro a hA
     refine go1y hA (wanted_yes hA rfl rfl rfl) rfl rfl (r_field (hA.ev rfl) T.fo24_4) ?_; clear hA a; intro a hA
     refine go1y hA (wanted_yes hA rfl rfl rfl) rfl rfl (r_load (hA.ev rfl) T.fl3 (by exact hS.cell rfl)) ?_; clear hA a; intro a hA
     refine go1sy hA (wanted_yes hA rfl rfl rfl) rfl rfl (r_neq (hA.ev rfl) (hA.ev rfl)) ?_ ?_
     ·
      clear hA a; intro h37 a hA
      refine go1 hA rfl rfl rfl (r_pick_f (hA.ev rfl) (hA.ev rfl)) ?_; clear hA a; intro a hA
      refine go1 hA rfl rfl rfl (r_move (hA.ev rfl)) ?_; clear hA a; intro a hA
      refine goS hA (wanted_no hA rfl rfl rfl rfl) rfl rfl ?_; clear hA a; intro a hA
      refine goS hA (wanted_no hA rfl rfl rfl rfl) rfl rfl ?_; clear hA a; intro a hA
      refine goS hA (wanted_no hA rfl rfl rfl rfl) rfl rfl ?_; clear hA a; intro a hA
      refine goS hA (wanted_no hA rfl rfl rfl rfl) rfl rfl ?_; clear hA a; intro a hA
      refine goS hA (wanted_no hA rfl rfl rfl rfl) rfl rfl ?_; clear hA a; intro a hA
      refine goS hA (wanted_no hA rfl rfl rfl rfl) rfl rfl ?_; clear hA a; intro a hA
      refine goS hA (wanted_no hA rfl rfl rfl rfl) rfl rfl ?_; clear hA a; intro a hA
      refine go1 hA rfl rfl rfl (r_pick_t (hA.ev rfl) (hA.ev rfl)) ?_; clear hA a; intro a hA
      refine wpList_nil ?_
      refine hk3 _ _ ?_
      clear hk3 k3
      replace hA := hA.keep (.cons (i := 2) rfl (.cons (i := 3) rfl (.cons (i := 4) rfl (.cons (i := 47) rfl .nil))))
      refine wp_cond_true (hA.ev rfl) ?_
      refine wp_seq_k fun k8 hk8 => ?_
      refine wp_region_lit ?_
      refine go1 hA rfl rfl rfl (r_assign (hA.ev rfl)) ?_; clear hA a; intro a hA
      refine wpList_nil ?_
      refine hk8 _ _ ?_
      clear hk8 k8
      replace hA := hA.keep (.cons (i := 2) rfl (.cons (i := 3) rfl (.cons (i := 4) rfl .nil)))
      refine wp_ret ?_
      refine then_ret ?_; clear hk2 k2
      refine end1 hA rfl rfl ?_
      first | (refine ⟨_, rfl, ⟨(fun h => by cases h), (fun h => ?_)⟩, hS.nil⟩; obtain ⟨e1, e2, e3, e4, e5, e6⟩ := h; have e7 := congrArg List.length e6; simp only [List.length_map] at e7; omega) | (refine ⟨_, rfl, ⟨(fun h => by cases h), (fun h => ?_)⟩, hS.nil⟩; obtain ⟨e1, e2, e3, e4, e5, e6⟩ := h; have e7 := congrArg (fun l => l[i.toNat]?) e6; simp only [List.getElem?_map, hp, hq, Option.map_some, Option.some.injEq, key, Prod.mk.injEq] at e7; first | omega | simp_all) | (refine ⟨_, rfl, ⟨(fun _ => ⟨by omega, by omega, by omega, by omega, by omega, ?_⟩), (fun _ => rfl)⟩, hS.nil⟩; refine List.ext_getElem? fun j => ?_; rw [List.getElem?_map, List.getElem?_map]; by_cases hj : (j : Int) < i; exact hG j hj; rw [List.getElem?_eq_none (by omega), List.getElem?_eq_none (by omega)])
     ·
      clear hA a; intro h37 a hA
      refine go1 hA rfl rfl rfl (r_pick_f (hA.ev rfl) (hA.ev rfl)) ?_; clear hA a; intro a hA
      refine go1 hA rfl rfl rfl (r_move (hA.ev rfl)) ?_; clear hA a; intro a hA
      refine go1y hA (wanted_yes hA rfl rfl rfl) rfl rfl (r_field (hA.ev rfl) T.fo24_5) ?_; clear hA a; intro a hA
      refine go1y hA (wanted_yes hA rfl rfl rfl) rfl rfl (r_load (hA.ev rfl) T.fl22 (by exact (hS.p 1).cell rfl)) ?_; clear hA a; intro a hA
      refine go1y hA (wanted_yes hA rfl rfl rfl) rfl rfl (r_lens (hA.ev rfl) T.un22) ?_; clear hA a; intro a hA
      refine go1y hA (wanted_yes hA rfl rfl rfl) rfl rfl (r_field (hA.ev rfl) T.fo24_5) ?_; clear hA a; intro a hA
      refine go1y hA (wanted_yes hA rfl rfl rfl) rfl rfl (r_load (hA.ev rfl) T.fl22 (by exact hS.cell rfl)) ?_; clear hA a; intro a hA
      refine go1y hA (wanted_yes hA rfl rfl rfl) rfl rfl (r_lens (hA.ev rfl) T.un22) ?_; clear hA a; intro a hA
      refine go1sy hA (wanted_yes hA rfl rfl rfl) rfl rfl (r_neq (hA.ev rfl) (hA.ev rfl)) ?_ ?_
      ·
       clear hA a; intro h46 a hA
       refine go1 hA rfl rfl rfl (r_pick_f (hA.ev rfl) (hA.ev rfl)) ?_; clear hA a; intro a hA
       refine wpList_nil ?_
       refine hk3 _ _ ?_
       clear hk3 k3
       replace hA := hA.keep (.cons (i := 2) rfl (.cons (i := 3) rfl (.cons (i := 4) rfl (.cons (i := 47) rfl .nil))))
       refine wp_cond_true (hA.ev rfl) ?_
       refine wp_seq_k fun k9 hk9 => ?_
       refine wp_region_lit ?_
       refine go1 hA rfl rfl rfl (r_assign (hA.ev rfl)) ?_; clear hA a; intro a hA
       refine wpList_nil ?_
       refine hk9 _ _ ?_
       clear hk9 k9
       replace hA := hA.keep (.cons (i := 2) rfl (.cons (i := 3) rfl (.cons (i := 4) rfl .nil)))
       refine wp_ret ?_
       refine then_ret ?_; clear hk2 k2
       refine end1 hA rfl rfl ?_
       first | (refine ⟨_, rfl, ⟨(fun h => by cases h), (fun h => ?_)⟩, hS.nil⟩; obtain ⟨e1, e2, e3, e4, e5, e6⟩ := h; have e7 := congrArg List.length e6; simp only [List.length_map] at e7; omega) | (refine ⟨_, rfl, ⟨(fun h => by cases h), (fun h => ?_)⟩, hS.nil⟩; obtain ⟨e1, e2, e3, e4, e5, e6⟩ := h; have e7 := congrArg (fun l => l[i.toNat]?) e6; simp only [List.getElem?_map, hp, hq, Option.map_some, Option.some.injEq, key, Prod.mk.injEq] at e7; first | omega | simp_all) | (refine ⟨_, rfl, ⟨(fun _ => ⟨by omega, by omega, by omega, by omega, by omega, ?_⟩), (fun _ => rfl)⟩, hS.nil⟩; refine List.ext_getElem? fun j => ?_; rw [List.getElem?_map, List.getElem?_map]; by_cases hj : (j : Int) < i; exact hG j hj; rw [List.getElem?_eq_none (by omega), List.getElem?_eq_none (by omega)])
      ·
       clear hA a; intro h46 a hA
       refine go1 hA rfl rfl rfl (r_pick_f (hA.ev rfl) (hA.ev rfl)) ?_; clear hA a; intro a hA
       refine wpList_nil ?_
       refine hk3 _ _ ?_
       clear hk3 k3
       replace hA := hA.keep (.cons (i := 2) rfl (.cons (i := 3) rfl (.cons (i := 4) rfl (.cons (i := 47) rfl .nil))))
       refine wp_cond_false (hA.ev rfl) ?_
       refine wp_skip ?_
       refine hk2 _ _ ?_
       clear hk2 k2
       replace hA := hA.keep (.cons (i := 2) rfl (.cons (i := 3) rfl (.cons (i := 4) rfl .nil)))
       refine wp_seq_k fun k10 hk10 => ?_
       refine wp_seq_k fun k11 hk11 => ?_
       refine wp_region_lit ?_
       refine go1 hA rfl rfl rfl (r_assign (hA.ev rfl)) ?_; clear hA a; intro a hA
       refine wpList_nil ?_
       refine hk11 _ _ ?_
       clear hk11 k11
       refine wp_block ?_
       refine wp_loop_ghost (fun (mm : Nat) a w => ∃ i : Int, Ag a 84 [(2, .pointer (some ⟨b2, 0, none⟩)), (3, .pointer (some ⟨b3, 0, none⟩)), (5, .int .i64 i)] ∧ Sat W w [pto b3 (.cells #[.int .i64 k2, .int .i64 f2, .int .i64 t2, .int .i64 lo2, .int .i64 hi2, .slice A2 qs.length c2] 24), pto b2 (.cells #[.int .i64 k, .int .i64 f, .int .i64 t, .int .i64 lo, .int .i64 hi, .slice A ps.length c] 24)] ∧ 0 ≤ i ∧ i ≤ ps.length ∧ mm = (ps.length - i).toNat ∧ ∀ j : Nat, (j : Int) < i → (ps[j]?).map key = (qs[j]?).map key) ps.length ?_ ?_
       ·
        replace hA := hA.keep (.cons (i := 2) rfl (.cons (i := 3) rfl (.cons (i := 5) rfl .nil)))
        exact ⟨0, hA, hS, by omega, by omega, by omega, fun j hj => by omega⟩
       intro m a w hI
       obtain ⟨i, hA, hS, hi0, hi1, rfl, hG⟩ := hI
       refine wp_seq_k fun k12 hk12 => ?_
       refine wp_seq_k fun k13 hk13 => ?_
       refine wp_region_lit ?_
       refine go1 hA rfl rfl rfl (r_move (hA.ev rfl)) ?_; clear hA a; intro a hA
       refine go1 hA rfl rfl rfl (r_field (hA.ev rfl) T.fo24_5) ?_; clear hA a; intro a hA
       refine go1 hA rfl rfl rfl (r_load (hA.ev rfl) T.fl22 (by exact (hS.p 1).cell rfl)) ?_; clear hA a; intro a hA
       refine go1 hA rfl rfl rfl (r_lens (hA.ev rfl) T.un22) ?_; clear hA a; intro a hA
       refine go1s hA rfl rfl rfl (r_lss (hA.ev rfl) (hA.ev rfl)) ?_ ?_
       ·
        clear hA a; intro h52 a hA
        obtain ⟨p0, rfl⟩ : ∃ p, A = some p := hR.hasAddr (by omega)
        obtain ⟨q0, rfl⟩ : ∃ p, A2 = some p := hR2.hasAddr (by omega)
        obtain ⟨p, hp⟩ : ∃ x, ps[i.toNat]? = some x := ⟨_, List.getElem?_eq_getElem (by omega)⟩
        obtain ⟨q, hq⟩ : ∃ y, qs[i.toNat]? = some y := ⟨_, List.getElem?_eq_getElem (by omega)⟩
        refine wpList_nil ?_
        refine hk13 _ _ ?_
        clear hk13 k13
        refine wp_cond_true (hA.ev rfl) ?_
        refine wp_skip ?_
        refine hk12 _ _ ?_
        clear hk12 k12
        refine wp_seq_k fun k14 hk14 => ?_
        refine wp_block ?_
        refine wp_seq_k fun k15 hk15 => ?_
        refine qEnter (fun w' => Sat _ w' _) (by kernel_rfl) (by kernel_rfl) hS.drew ?_
        refine K.q1 hA rfl rfl rfl (fun w hS => (r_field (hA.ev rfl) T.fo24_5)) ?_; clear hA a; intro a hA
        refine K.q1 hA rfl rfl rfl (fun w hS => (r_load (hA.ev rfl) T.fl22 (by exact (hS.p 1).cell rfl))) ?_; clear hA a; intro a hA
        refine K.q1 hA rfl rfl rfl (fun w hS => (r_move (hA.ev rfl))) ?_; clear hA a; intro a hA
        refine K.q1 hA rfl rfl rfl (fun w hS => (r_index (hA.ev rfl) (hA.ev rfl) T.un22 T.sz49 (by omega) (by omega))) ?_; clear hA a; intro a hA
        refine K.q1 hA rfl rfl rfl (fun w hS => (r_fieldP (hA.ev rfl) T.fo49_0)) ?_; clear hA a; intro a hA
        refine K.q1 hA rfl rfl rfl (fun w hS => (r_load (hA.ev rfl) T.fl3 ((hR.sat hS).elem (part_at hp) 0 _ rfl))) ?_; clear hA a; intro a hA
        refine K.q1 hA rfl rfl rfl (fun w hS => (r_field (hA.ev rfl) T.fo24_5)) ?_; clear hA a; intro a hA
        refine K.q1 hA rfl rfl rfl (fun w hS => (r_load (hA.ev rfl) T.fl22 (by exact hS.cell rfl))) ?_; clear hA a; intro a hA
        refine K.q1 hA rfl rfl rfl (fun w hS => (r_move (hA.ev rfl))) ?_; clear hA a; intro a hA
        refine K.q1 hA rfl rfl rfl (fun w hS => (r_index (hA.ev rfl) (hA.ev rfl) T.un22 T.sz49 (by omega) (by omega))) ?_; clear hA a; intro a hA
        refine K.q1 hA rfl rfl rfl (fun w hS => (r_fieldP (hA.ev rfl) T.fo49_0)) ?_; clear hA a; intro a hA
        refine K.q1 hA rfl rfl rfl (fun w hS => (r_load (hA.ev rfl) T.fl3 ((hR2.sat hS).elem (part_at hq) 0 _ rfl))) ?_; clear hA a; intro a hA
        refine K.q1s hA rfl rfl rfl (fun w hS => (r_neq (hA.ev rfl) (hA.ev rfl))) ?_ ?_
        ·
         clear hA a; intro h67 a hA
         refine K.q1 hA rfl rfl rfl (fun w hS => (r_move (hA.ev rfl))) ?_; clear hA a; intro a hA
         refine qS hA (wanted_no hA rfl rfl rfl rfl) rfl rfl ?_; clear hA a; intro a hA
         refine qS hA (wanted_no hA rfl rfl rfl rfl) rfl rfl ?_; clear hA a; intro a hA
         refine qS hA (wanted_no hA rfl rfl rfl rfl) rfl rfl ?_; clear hA a; intro a hA
         refine qS hA (wanted_no hA rfl rfl rfl rfl) rfl rfl ?_; clear hA a; intro a hA
         refine qS hA (wanted_no hA rfl rfl rfl rfl) rfl rfl ?_; clear hA a; intro a hA
         refine qS hA (wanted_no hA rfl rfl rfl rfl) rfl rfl ?_; clear hA a; intro a hA
         refine qS hA (wanted_no hA rfl rfl rfl rfl) rfl rfl ?_; clear hA a; intro a hA
         refine qS hA (wanted_no hA rfl rfl rfl rfl) rfl rfl ?_; clear hA a; intro a hA
         refine qS hA (wanted_no hA rfl rfl rfl rfl) rfl rfl ?_; clear hA a; intro a hA
         refine qS hA (wanted_no hA rfl rfl rfl rfl) rfl rfl ?_; clear hA a; intro a hA
         refine qS hA (wanted_no hA rfl rfl rfl rfl) rfl rfl ?_; clear hA a; intro a hA
         refine qS hA (wanted_no hA rfl rfl rfl rfl) rfl rfl ?_; clear hA a; intro a hA
         refine qS hA (wanted_no hA rfl rfl rfl rfl) rfl rfl ?_; clear hA a; intro a hA
         refine qS hA (wanted_no hA rfl rfl rfl rfl) rfl rfl ?_; clear hA a; intro a hA
         refine K.q1 hA rfl rfl rfl (fun w hS => (r_pick_t (hA.ev rfl) (hA.ev rfl))) ?_; clear hA a; intro a hA
         refine wpQuiet_nil ?_
         clear hS; intro w hS
         refine hk15 _ _ ?_
         clear hk15 k15
         refine wp_cond_true (hA.ev rfl) ?_
         refine wp_seq_k fun k16 hk16 => ?_
         refine wp_region_lit ?_
         refine go1 hA rfl rfl rfl (r_assign (hA.ev rfl)) ?_; clear hA a; intro a hA
         refine wpList_nil ?_
         refine hk16 _ _ ?_
         clear hk16 k16
         refine wp_ret ?_
         refine block_ret ?_
         refine then_ret ?_; clear hk14 k14
         refine then_ret ?_
         refine block_ret ?_
         refine then_ret ?_; clear hk10 k10
         refine end1 hA rfl rfl ?_
         first | (refine ⟨_, rfl, ⟨(fun h => by cases h), (fun h => ?_)⟩, hS.nil⟩; obtain ⟨e1, e2, e3, e4, e5, e6⟩ := h; have e7 := congrArg List.length e6; simp only [List.length_map] at e7; omega) | (refine ⟨_, rfl, ⟨(fun h => by cases h), (fun h => ?_)⟩, hS.nil⟩; obtain ⟨e1, e2, e3, e4, e5, e6⟩ := h; have e7 := congrArg (fun l => l[i.toNat]?) e6; simp only [List.getElem?_map, hp, hq, Option.map_some, Option.some.injEq, key, Prod.mk.injEq] at e7; omega) | (refine ⟨_, rfl, ⟨(fun _ => ⟨by omega, by omega, by omega, by omega, by omega, ?_⟩), (fun _ => rfl)⟩, hS.nil⟩; refine List.ext_getElem? fun j => ?_; rw [List.getElem?_map, List.getElem?_map]; by_cases hj : (j : Int) < i; exact hG j hj; rw [List.getElem?_eq_none (by omega), List.getElem?_eq_none (by omega)])
        ·
         clear hA a; intro h67 a hA
         refine K.q1 hA rfl rfl rfl (fun w hS => (r_move (hA.ev rfl))) ?_; clear hA a; intro a hA
         refine K.q1y hA (wanted_yes hA rfl rfl rfl) rfl rfl (fun w hS => (r_field (hA.ev rfl) T.fo24_5)) ?_; clear hA a; intro a hA
         refine K.q1y hA (wanted_yes hA rfl rfl rfl) rfl rfl (fun w hS => (r_load (hA.ev rfl) T.fl22 (by exact (hS.p 1).cell rfl))) ?_; clear hA a; intro a hA
         refine K.q1y hA (wanted_yes hA rfl rfl rfl) rfl rfl (fun w hS => (r_move (hA.ev rfl))) ?_; clear hA a; intro a hA
         refine K.q1y hA (wanted_yes hA rfl rfl rfl) rfl rfl (fun w hS => (r_index (hA.ev rfl) (hA.ev rfl) T.un22 T.sz49 (by omega) (by omega))) ?_; clear hA a; intro a hA
         refine K.q1y hA (wanted_yes hA rfl rfl rfl) rfl rfl (fun w hS => (r_fieldP (hA.ev rfl) T.fo49_1)) ?_; clear hA a; intro a hA
         refine K.q1y hA (wanted_yes hA rfl rfl rfl) rfl rfl (fun w hS => (r_load (hA.ev rfl) T.fl34 ((hR.sat hS).elem (part_at hp) 1 _ rfl))) ?_; clear hA a; intro a hA
         refine K.q1y hA (wanted_yes hA rfl rfl rfl) rfl rfl (fun w hS => (r_field (hA.ev rfl) T.fo24_5)) ?_; clear hA a; intro a hA
         refine K.q1y hA (wanted_yes hA rfl rfl rfl) rfl rfl (fun w hS => (r_load (hA.ev rfl) T.fl22 (by exact hS.cell rfl))) ?_; clear hA a; intro a hA
         refine K.q1y hA (wanted_yes hA rfl rfl rfl) rfl rfl (fun w hS => (r_move (hA.ev rfl))) ?_; clear hA a; intro a hA
         refine K.q1y hA (wanted_yes hA rfl rfl rfl) rfl rfl (fun w hS => (r_index (hA.ev rfl) (hA.ev rfl) T.un22 T.sz49 (by omega) (by omega))) ?_; clear hA a; intro a hA
         refine K.q1y hA (wanted_yes hA rfl rfl rfl) rfl rfl (fun w hS => (r_fieldP (hA.ev rfl) T.fo49_1)) ?_; clear hA a; intro a hA
         refine K.q1y hA (wanted_yes hA rfl rfl rfl) rfl rfl (fun w hS => (r_load (hA.ev rfl) T.fl34 ((hR2.sat hS).elem (part_at hq) 1 _ rfl))) ?_; clear hA a; intro a hA
         refine qFy hA (wanted_yes hA rfl rfl rfl) rfl T.en23 rfl (fun w hS => (EqualBytes_calls w p.A p.c p.b q.A q.c q.b ((hB p (List.mem_of_getElem? hp)).1.sat hS) ((hB2 q (List.mem_of_getElem? hq)).1.sat hS) (hB p (List.mem_of_getElem? hp)).2 (hB2 q (List.mem_of_getElem? hq)).2).mono fun e w' ⟨he, hT⟩ => ⟨he, hS.rebase hT⟩) ?_; clear hA a; intro a hA
         refine K.q1by hA (wanted_yes hA rfl rfl rfl) rfl rfl (fun w hS => (r_not (hA.ev rfl))) ?_ ?_
         ·
          clear hA a; intro h82 a hA
          refine K.q1 hA rfl rfl rfl (fun w hS => (r_pick_f (hA.ev rfl) (hA.ev rfl))) ?_; clear hA a; intro a hA
          refine wpQuiet_nil ?_
          clear hS; intro w hS
          refine hk15 _ _ ?_
          clear hk15 k15
          refine wp_cond_true (hA.ev rfl) ?_
          refine wp_seq_k fun k17 hk17 => ?_
          refine wp_region_lit ?_
          refine go1 hA rfl rfl rfl (r_assign (hA.ev rfl)) ?_; clear hA a; intro a hA
          refine wpList_nil ?_
          refine hk17 _ _ ?_
          clear hk17 k17
          refine wp_ret ?_
          refine block_ret ?_
          refine then_ret ?_; clear hk14 k14
          refine then_ret ?_
          refine block_ret ?_
          refine then_ret ?_; clear hk10 k10
          refine end1 hA rfl rfl ?_
          first | (refine ⟨_, rfl, ⟨(fun h => by cases h), (fun h => ?_)⟩, hS.nil⟩; obtain ⟨e1, e2, e3, e4, e5, e6⟩ := h; have e7 := congrArg List.length e6; simp only [List.length_map] at e7; omega) | (refine ⟨_, rfl, ⟨(fun h => by cases h), (fun h => ?_)⟩, hS.nil⟩; obtain ⟨e1, e2, e3, e4, e5, e6⟩ := h; have e7 := congrArg (fun l => l[i.toNat]?) e6; simp only [List.getElem?_map, hp, hq, Option.map_some, Option.some.injEq, key, Prod.mk.injEq] at e7; simp_all) | (refine ⟨_, rfl, ⟨(fun _ => ⟨by omega, by omega, by omega, by omega, by omega, ?_⟩), (fun _ => rfl)⟩, hS.nil⟩; refine List.ext_getElem? fun j => ?_; rw [List.getElem?_map, List.getElem?_map]; by_cases hj : (j : Int) < i; exact hG j hj; rw [List.getElem?_eq_none (by omega), List.getElem?_eq_none (by omega)])
         ·
          clear hA a; intro h82 a hA
          refine K.q1 hA rfl rfl rfl (fun w hS => (r_pick_f (hA.ev rfl) (hA.ev rfl))) ?_; clear hA a; intro a hA
          refine wpQuiet_nil ?_
          clear hS; intro w hS
          refine hk15 _ _ ?_
          clear hk15 k15
          refine wp_cond_false (hA.ev rfl) ?_
          refine wp_skip ?_
          refine block_normal ?_
          refine hk14 _ _ ?_
          clear hk14 k14
          refine wp_region_lit ?_
          refine go1 hA rfl rfl rfl (r_move (hA.ev rfl)) ?_; clear hA a; intro a hA
          refine go1 hA rfl rfl rfl (r_add64 (hA.ev rfl) (hA.ev rfl) (by omega) (by omega)) ?_; clear hA a; intro a hA
          refine go1 hA rfl rfl rfl (r_assign (hA.ev rfl)) ?_; clear hA a; intro a hA
          refine wpList_nil ?_
          replace hA := hA.keep (.cons (i := 2) rfl (.cons (i := 3) rfl (.cons (i := 5) rfl .nil)))
          refine ⟨(ps.length - (i + 1)).toNat, by omega, i + 1, hA, hS, by omega, by omega, rfl, fun j hj => ?_⟩
          by_cases hji : (j : Int) < i
          ·
           exact hG j hji
          ·
           obtain rfl : j = i.toNat := by omega
           rw [hp, hq]
           have hb : p.b = q.b := by simpa using h82
           simp only [Option.map_some, key, hb, show p.cart = q.cart from by omega]
       ·
        clear hA a; intro h52 a hA
        refine wpList_nil ?_
        refine hk13 _ _ ?_
        clear hk13 k13
        refine wp_cond_false (hA.ev rfl) ?_
        refine wp_exit ?_
        refine then_exit ?_; clear hk12 k12
        refine then_exit ?_
        refine block_hit ?_
        refine hk10 _ _ ?_
        clear hk10 k10
        replace hA := hA.keep .nil
        refine wp_seq_k fun k18 hk18 => ?_
        refine wp_region_lit ?_
        refine go1 hA rfl rfl rfl (r_assign (hA.ev rfl)) ?_; clear hA a; intro a hA
        refine wpList_nil ?_
        refine hk18 _ _ ?_
        clear hk18 k18
        refine wp_ret ?_
        refine end1 hA rfl rfl ?_
        first | (refine ⟨_, rfl, ⟨(fun h => by cases h), (fun h => ?_)⟩, hS.nil⟩; obtain ⟨e1, e2, e3, e4, e5, e6⟩ := h; have e7 := congrArg List.length e6; simp only [List.length_map] at e7; omega) | (refine ⟨_, rfl, ⟨(fun h => by cases h), (fun h => ?_)⟩, hS.nil⟩; obtain ⟨e1, e2, e3, e4, e5, e6⟩ := h; have e7 := congrArg (fun l => l[i.toNat]?) e6; simp only [List.getElem?_map, hp, hq, Option.map_some, Option.some.injEq, key, Prod.mk.injEq] at e7; first | omega | simp_all) | (refine ⟨_, rfl, ⟨(fun _ => ⟨by omega, by omega, by omega, by omega, by omega, ?_⟩), (fun _ => rfl)⟩, hS.nil⟩; refine List.ext_getElem? fun j => ?_; rw [List.getElem?_map, List.getElem?_map]; by_cases hj : (j : Int) < i; exact hG j hj; rw [List.getElem?_eq_none (by omega), List.getElem?_eq_none (by omega)])
set_option maxRecDepth 100000 in
theorem some_calls (W : World)   : Calls Try.prog 13 #[] W fun e w' => ∃ A A2, e = .returned (.agg #[.int .i64 1, .int .i64 0, .int .i64 1, .int .i64 2, .int .i64 3, .slice A 1 1]) ∧ Sat W w' [row 49 2 (.slice A 1 1) 1 [.int .i64 4, .slice A2 2 2], row 5 1 (.slice A2 2 2) 2 [.int .u8 255, .int .u8 0]] := by
 refine enter Try.func13 rfl rfl rfl .nil ?_
 intro a hA
 have hS := Sat.start W
 refine wp_seq_k fun k1 hk1 => ?_
 refine wp_region_lit ?_
 refine goN hA rfl T.zv24 hS ?_
 clear hA a hS; intro b0 w hS a hA
 refine wpList_nil ?_
 refine hk1 _ _ ?_
 clear hk1 k1
 refine wp_seq_k fun k2 hk2 => ?_
 refine wp_region_lit ?_
 refine goL hA rfl rfl T.un34 T.el5 rfl rfl rfl (by simp [Value.oneCell']) hS ?_
 clear hA a hS; intro A1 w hS a hA
 refine go1 hA rfl rfl rfl (r_build hA rfl T.bd49_0_1) ?_; clear hA a; intro a hA
 refine goLS (vss := [[_, _]]) hA rfl rfl T.un22 T.el49 rfl rfl rfl (by simp) rfl hS ?_
 clear hA a hS; intro A3 w hS a hA
 refine go1 hA rfl rfl rfl (r_build hA rfl T.bd24_0_1_2_3_4_5) ?_; clear hA a; intro a hA
 refine goWS2 (vs := [_, _, _, _, _, _]) (cs' := [_, _, _, _, _, _]) hA rfl rfl T.sz24 (by simp [Value.oneCell']) (hS.p 2) rfl rfl ?_
 clear hS; intro w hS
 refine wpList_nil ?_
 refine hk2 _ _ ?_
 clear hk2 k2
 replace hA := hA.keep (.cons (i := 0) rfl .nil)
 refine wp_ret ?_
 refine endR1 hA rfl (resS (cs := [_, _, _, _, _, _]) hA rfl T.ag24 T.sz24 (by exact hS.cellsAt (xs := [_, _, _, _, _, _]) rfl)) ?_
 exact ⟨_, _, rfl, hS.drop⟩
set_option maxRecDepth 100000 in
theorem Ack_calls (W : World) (k f t lo hi : Int) (A : Option Addr) (c : Nat) (ps : List PartD) (hR : Rd W 2 (.slice A ps.length c) ps.length (ps.flatMap encP)) (hlen : ps.length ≤ 140737488355328) : Calls Try.prog 12 #[.agg #[.int .i64 k, .int .i64 f, .int .i64 t, .int .i64 lo, .int .i64 hi, .slice A ps.length c]] W fun e w' => ∃ k' f' t' hi' er, e = .returned (.tuple #[.agg #[.int .i64 k', .int .i64 f', .int .i64 t', .int .i64 0, .int .i64 hi', .slice none 0 0], .int .i64 er]) ∧ ((¬ Form k f t lo hi ps ∧ er = 1 ∧ k' = 0 ∧ f' = 0 ∧ t' = 0 ∧ hi' = 0) ∨ (Form k f t lo hi ps ∧ ¬ (k = 1 ∨ k = 2) ∧ er = 7 ∧ k' = 0 ∧ f' = 0 ∧ t' = 0 ∧ hi' = 0) ∨ (Form k f t lo hi ps ∧ (k = 1 ∨ k = 2) ∧ er = 0 ∧ k' = 3 ∧ f' = t ∧ t' = f ∧ hi' = hi)) ∧ Sat W w' [] := by
 refine enter Try.func12 rfl rfl rfl (.cons (i := 0) rfl .nil) ?_
 intro a hA
 have hS := Sat.start W
 refine wp_seq_k fun k1 hk1 => ?_
 refine wp_region_lit ?_
 refine goB hA rfl rfl hS ?_
 clear hA a hS; intro b1 w hS a hA
 refine goN hA rfl T.zv24 hS ?_
 clear hA a hS; intro b2 w hS a hA
 refine go1 hA rfl rfl rfl (r_assign (hA.ev rfl)) ?_; clear hA a; intro a hA
 refine wpList_nil ?_
 refine hk1 _ _ ?_
 clear hk1 k1
 replace hA := hA.keep (.cons (i := 1) rfl (.cons (i := 2) rfl (.cons (i := 3) rfl .nil)))
 refine wp_seq_k fun k2 hk2 => ?_
 refine wp_seq_k fun k3 hk3 => ?_
 refine wp_region_lit ?_
 refine go1 hA rfl rfl rfl (r_loadS (cs := [_, _, _, _, _, _]) (hA.ev rfl) T.ag24 T.sz24 (by exact (hS.p 1).cellsAt (xs := [_, _, _, _, _, _]) rfl)) ?_; clear hA a; intro a hA
 refine goF hA rfl T.en16 rfl (Check_calls w k f t lo hi A c ps (hR.sat hS) hlen) ?_
 clear hA a; rintro e w ⟨er, rfl, hc, hT⟩; replace hS : Sat _ _ _ := hS.rebase hT; clear hT
 refine ⟨_, rfl, ?_⟩; intro a hA
 refine go1s hA rfl rfl rfl (r_neq (hA.ev rfl) (hA.ev rfl)) ?_ ?_
 ·
  clear hA a; intro h6 a hA
  have hF : ¬ Form k f t lo hi ps := by
   rcases hc with ⟨h, _⟩ | ⟨_, h⟩
   ·
    omega
   ·
    exact h
  refine wpList_nil ?_
  refine hk3 _ _ ?_
  clear hk3 k3
  replace hA := hA.keep (.cons (i := 1) rfl (.cons (i := 2) rfl (.cons (i := 3) rfl (.cons (i := 6) rfl .nil))))
  refine wp_cond_true (hA.ev rfl) ?_
  refine wp_seq_k fun k4 hk4 => ?_
  refine wp_region_lit ?_
  refine go1 hA rfl rfl rfl (r_build hA rfl T.bd24_) ?_; clear hA a; intro a hA
  refine goWS2 (vs := [_, _, _, _, _, _]) (cs' := [_, _, _, _, _, _]) hA rfl rfl T.sz24 (by simp [Value.oneCell']) hS rfl rfl ?_
  clear hS; intro w hS
  refine go1 hA rfl rfl rfl (r_assign (hA.ev rfl)) ?_; clear hA a; intro a hA
  refine wpList_nil ?_
  refine hk4 _ _ ?_
  clear hk4 k4
  replace hA := hA.keep (.cons (i := 1) rfl (.cons (i := 2) rfl (.cons (i := 3) rfl .nil)))
  refine wp_ret ?_
  refine then_ret ?_; clear hk2 k2
  refine endR2 hA rfl (resS (cs := [_, _, _, _, _, _]) hA rfl T.ag24 T.sz24 (by exact hS.cellsAt (xs := [_, _, _, _, _, _]) rfl)) (resT hA rfl) ?_
  exact ⟨_, _, _, _, _, rfl, .inl ⟨hF, rfl, rfl, rfl, rfl, rfl⟩, hS.nil⟩
 ·
  clear hA a; intro h6 a hA
  have hF : Form k f t lo hi ps := by
   rcases hc with ⟨_, h⟩ | ⟨h, _⟩
   ·
    exact h
   ·
    omega
  refine wpList_nil ?_
  refine hk3 _ _ ?_
  clear hk3 k3
  replace hA := hA.keep (.cons (i := 1) rfl (.cons (i := 2) rfl (.cons (i := 3) rfl (.cons (i := 6) rfl .nil))))
  refine wp_cond_false (hA.ev rfl) ?_
  refine wp_skip ?_
  refine hk2 _ _ ?_
  clear hk2 k2
  replace hA := hA.keep (.cons (i := 1) rfl (.cons (i := 2) rfl (.cons (i := 3) rfl .nil)))
  refine wp_seq_k fun k5 hk5 => ?_
  refine wp_seq_k fun k6 hk6 => ?_
  refine wp_region_lit ?_
  refine go1 hA rfl rfl rfl (r_field (hA.ev rfl) T.fo24_0) ?_; clear hA a; intro a hA
  refine go1 hA rfl rfl rfl (r_load (hA.ev rfl) T.fl3 (by exact (hS.p 1).cell rfl)) ?_; clear hA a; intro a hA
  refine go1s hA rfl rfl rfl (r_neq (hA.ev rfl) (hA.ev rfl)) ?_ ?_
  ·
   clear hA a; intro h10 a hA
   refine go1 hA rfl rfl rfl (r_move (hA.ev rfl)) ?_; clear hA a; intro a hA
   refine go1y hA (wanted_yes hA rfl rfl rfl) rfl rfl (r_field (hA.ev rfl) T.fo24_0) ?_; clear hA a; intro a hA
   refine go1y hA (wanted_yes hA rfl rfl rfl) rfl rfl (r_load (hA.ev rfl) T.fl3 (by exact (hS.p 1).cell rfl)) ?_; clear hA a; intro a hA
   refine go1sy hA (wanted_yes hA rfl rfl rfl) rfl rfl (r_neq (hA.ev rfl) (hA.ev rfl)) ?_ ?_
   ·
    clear hA a; intro h14 a hA
    refine go1 hA rfl rfl rfl (r_pick_t (hA.ev rfl) (hA.ev rfl)) ?_; clear hA a; intro a hA
    refine wpList_nil ?_
    refine hk6 _ _ ?_
    clear hk6 k6
    replace hA := hA.keep (.cons (i := 1) rfl (.cons (i := 2) rfl (.cons (i := 3) rfl (.cons (i := 15) rfl .nil))))
    refine wp_cond_true (hA.ev rfl) ?_
    refine wp_seq_k fun k7 hk7 => ?_
    refine wp_region_lit ?_
    refine go1 hA rfl rfl rfl (r_build hA rfl T.bd24_) ?_; clear hA a; intro a hA
    refine goWS2 (vs := [_, _, _, _, _, _]) (cs' := [_, _, _, _, _, _]) hA rfl rfl T.sz24 (by simp [Value.oneCell']) hS rfl rfl ?_
    clear hS; intro w hS
    refine go1 hA rfl rfl rfl (r_assign (hA.ev rfl)) ?_; clear hA a; intro a hA
    refine wpList_nil ?_
    refine hk7 _ _ ?_
    clear hk7 k7
    replace hA := hA.keep (.cons (i := 1) rfl (.cons (i := 2) rfl (.cons (i := 3) rfl .nil)))
    refine wp_ret ?_
    refine then_ret ?_; clear hk5 k5
    refine endR2 hA rfl (resS (cs := [_, _, _, _, _, _]) hA rfl T.ag24 T.sz24 (by exact hS.cellsAt (xs := [_, _, _, _, _, _]) rfl)) (resT hA rfl) ?_
    exact ⟨_, _, _, _, _, rfl, .inr (.inl ⟨hF, by omega, rfl, rfl, rfl, rfl, rfl⟩), hS.nil⟩
   ·
    clear hA a; intro h14 a hA
    refine go1 hA rfl rfl rfl (r_pick_t (hA.ev rfl) (hA.ev rfl)) ?_; clear hA a; intro a hA
    refine wpList_nil ?_
    refine hk6 _ _ ?_
    clear hk6 k6
    replace hA := hA.keep (.cons (i := 1) rfl (.cons (i := 2) rfl (.cons (i := 3) rfl (.cons (i := 15) rfl .nil))))
    refine wp_cond_false (hA.ev rfl) ?_
    refine wp_skip ?_
    refine hk5 _ _ ?_
    clear hk5 k5
    replace hA := hA.keep (.cons (i := 1) rfl (.cons (i := 2) rfl (.cons (i := 3) rfl .nil)))
    refine wp_seq_k fun k8 hk8 => ?_
    refine wp_region_lit ?_
    refine go1 hA rfl rfl rfl (r_field (hA.ev rfl) T.fo24_2) ?_; clear hA a; intro a hA
    refine go1 hA rfl rfl rfl (r_load (hA.ev rfl) T.fl3 (by exact (hS.p 1).cell rfl)) ?_; clear hA a; intro a hA
    refine go1 hA rfl rfl rfl (r_field (hA.ev rfl) T.fo24_1) ?_; clear hA a; intro a hA
    refine go1 hA rfl rfl rfl (r_load (hA.ev rfl) T.fl3 (by exact (hS.p 1).cell rfl)) ?_; clear hA a; intro a hA
    refine go1 hA rfl rfl rfl (r_field (hA.ev rfl) T.fo24_4) ?_; clear hA a; intro a hA
    refine go1 hA rfl rfl rfl (r_load (hA.ev rfl) T.fl3 (by exact (hS.p 1).cell rfl)) ?_; clear hA a; intro a hA
    refine go1 hA rfl rfl rfl (r_build hA rfl T.bd24_0_1_2_4) ?_; clear hA a; intro a hA
    refine goWS2 (vs := [_, _, _, _, _, _]) (cs' := [_, _, _, _, _, _]) hA rfl rfl T.sz24 (by simp [Value.oneCell']) hS rfl rfl ?_
    clear hS; intro w hS
    refine go1 hA rfl rfl rfl (r_assign (hA.ev rfl)) ?_; clear hA a; intro a hA
    refine wpList_nil ?_
    refine hk8 _ _ ?_
    clear hk8 k8
    replace hA := hA.keep (.cons (i := 2) rfl (.cons (i := 3) rfl .nil))
    refine wp_ret ?_
    refine endR2 hA rfl (resS (cs := [_, _, _, _, _, _]) hA rfl T.ag24 T.sz24 (by exact hS.cellsAt (xs := [_, _, _, _, _, _]) rfl)) (resT hA rfl) ?_
    exact ⟨_, _, _, _, _, rfl, .inr (.inr ⟨hF, by omega, rfl, rfl, rfl, rfl, rfl⟩), hS.nil⟩
  ·
   clear hA a; intro h10 a hA
   refine go1 hA rfl rfl rfl (r_move (hA.ev rfl)) ?_; clear hA a; intro a hA
   refine goS hA (wanted_no hA rfl rfl rfl rfl) rfl rfl ?_; clear hA a; intro a hA
   refine goS hA (wanted_no hA rfl rfl rfl rfl) rfl rfl ?_; clear hA a; intro a hA
   refine goS hA (wanted_no hA rfl rfl rfl rfl) rfl rfl ?_; clear hA a; intro a hA
   refine go1 hA rfl rfl rfl (r_pick_f (hA.ev rfl) (hA.ev rfl)) ?_; clear hA a; intro a hA
   refine wpList_nil ?_
   refine hk6 _ _ ?_
   clear hk6 k6
   replace hA := hA.keep (.cons (i := 1) rfl (.cons (i := 2) rfl (.cons (i := 3) rfl (.cons (i := 15) rfl .nil))))
   refine wp_cond_false (hA.ev rfl) ?_
   refine wp_skip ?_
   refine hk5 _ _ ?_
   clear hk5 k5
   replace hA := hA.keep (.cons (i := 1) rfl (.cons (i := 2) rfl (.cons (i := 3) rfl .nil)))
   refine wp_seq_k fun k9 hk9 => ?_
   refine wp_region_lit ?_
   refine go1 hA rfl rfl rfl (r_field (hA.ev rfl) T.fo24_2) ?_; clear hA a; intro a hA
   refine go1 hA rfl rfl rfl (r_load (hA.ev rfl) T.fl3 (by exact (hS.p 1).cell rfl)) ?_; clear hA a; intro a hA
   refine go1 hA rfl rfl rfl (r_field (hA.ev rfl) T.fo24_1) ?_; clear hA a; intro a hA
   refine go1 hA rfl rfl rfl (r_load (hA.ev rfl) T.fl3 (by exact (hS.p 1).cell rfl)) ?_; clear hA a; intro a hA
   refine go1 hA rfl rfl rfl (r_field (hA.ev rfl) T.fo24_4) ?_; clear hA a; intro a hA
   refine go1 hA rfl rfl rfl (r_load (hA.ev rfl) T.fl3 (by exact (hS.p 1).cell rfl)) ?_; clear hA a; intro a hA
   refine go1 hA rfl rfl rfl (r_build hA rfl T.bd24_0_1_2_4) ?_; clear hA a; intro a hA
   refine goWS2 (vs := [_, _, _, _, _, _]) (cs' := [_, _, _, _, _, _]) hA rfl rfl T.sz24 (by simp [Value.oneCell']) hS rfl rfl ?_
   clear hS; intro w hS
   refine go1 hA rfl rfl rfl (r_assign (hA.ev rfl)) ?_; clear hA a; intro a hA
   refine wpList_nil ?_
   refine hk9 _ _ ?_
   clear hk9 k9
   replace hA := hA.keep (.cons (i := 2) rfl (.cons (i := 3) rfl .nil))
   refine wp_ret ?_
   refine endR2 hA rfl (resS (cs := [_, _, _, _, _, _]) hA rfl T.ag24 T.sz24 (by exact hS.cellsAt (xs := [_, _, _, _, _, _]) rfl)) (resT hA rfl) ?_
   exact ⟨_, _, _, _, _, rfl, .inr (.inr ⟨hF, by omega, rfl, rfl, rfl, rfl, rfl⟩), hS.nil⟩
end Go.Proofs.Ytfbdcllbgfohdaa.Wm
set_option linter.unusedVariables false
set_option linter.unusedSimpArgs false
namespace Go.Proofs.Ytfbdcllbgfohdaa.Wk
open Go Go.RowKit Go.Proofs.Ytfbdcllbgfohdaa Go.Proofs.Ytfbdcllbgfohdaa.K
/-! numbers as bytes -/
/-- The bytes of a number. -/
def numL (n : Nat) : List UInt8 := if n < 128 then [UInt8.ofNat n] else UInt8.ofNat (n % 128 + 128) :: numL (n / 128)
termination_by n
decreasing_by omega
theorem numL_lt {n : Nat} (h : n < 128) : numL n = [UInt8.ofNat n] := by rw [numL, if_pos h]
theorem numL_ge {n : Nat} (h : 128 ≤ n) : numL n = UInt8.ofNat (n % 128 + 128) :: numL (n / 128) := by rw [numL, if_neg (by omega)]
theorem numL_pos (n : Nat) : 0 < (numL n).length := by
 by_cases h : n < 128
 ·
  rw [numL_lt h]; simp
 ·
  rw [numL_ge (by omega)]; simp
theorem numL_len : ∀ (k n : Nat), n < 128 ^ (k + 1) → (numL n).length ≤ k + 1
 | 0, n, h => by rw [numL_lt (by simpa using h)]; simp
 | k + 1, n, h => by
   by_cases hn : n < 128
   ·
    rw [numL_lt hn]; simp
   ·
    rw [numL_ge (by omega)]
    have := numL_len k (n / 128) (by rw [Nat.div_lt_iff_lt_mul (by omega)]; rw [Nat.pow_succ] at h; exact h)
    simp; omega
theorem numL_nine {n : Nat} (h : n ≤ 9223372036854775807) : (numL n).length ≤ 9 := numL_len 8 n (by omega)
/-- Reading: the error (0: none), the number, how many bytes; f more bytes may come, k have come. -/
def rdF : Nat → Nat → List UInt8 → Nat × Nat × Nat
 | 0, _, _ => (51, 0, 0)
 | _ + 1, _, [] => (50, 0, 0)
 | f + 1, k, c :: l => if c.toNat < 128 then (if c.toNat = 0 ∧ 0 < k then (51, 0, 0) else (0, c.toNat, 1)) else
     (if (rdF f (k + 1) l).1 = 0 then (0, (c.toNat - 128) + 128 * (rdF f (k + 1) l).2.1, (rdF f (k + 1) l).2.2 + 1) else ((rdF f (k + 1) l).1, 0, 0))
/-- What was read ahead (acc, of weight wt, i bytes) and what comes. -/
def lift (acc wt i : Nat) (r : Nat × Nat × Nat) : Nat × Nat × Nat := if r.1 = 0 then (0, acc + wt * r.2.1, i + r.2.2) else (r.1, 0, 0)
theorem lift_step (acc wt i c : Nat) (r : Nat × Nat × Nat) : lift acc wt i (if r.1 = 0 then (0, c + 128 * r.2.1, r.2.2 + 1) else (r.1, 0, 0)) = lift (acc + wt * c) (wt * 128) (i + 1) r := by
 unfold lift
 by_cases h : r.1 = 0
 ·
  rw [if_pos h, if_pos rfl, if_pos h]
  simp only [Prod.mk.injEq, true_and]
  refine ⟨?_, by omega⟩
  rw [Nat.mul_add, Nat.mul_assoc, ← Nat.add_assoc]
 ·
  rw [if_neg h, if_neg h, if_neg h]
theorem lift_id (r : Nat × Nat × Nat) (h : r.1 = 0 ∨ (r.2.1 = 0 ∧ r.2.2 = 0)) : lift 0 1 0 r = r := by
 unfold lift
 obtain ⟨a, b, c⟩ := r
 by_cases ha : a = 0
 ·
  subst ha; simp
 ·
  rw [if_neg ha]
  rcases h with h | ⟨h1, h2⟩
  ·
   exact absurd h ha
  ·
   simp at h1 h2; subst h1 h2; rfl
theorem rdF_zero : ∀ (f k : Nat) (l : List UInt8), (rdF f k l).1 = 0 ∨ ((rdF f k l).2.1 = 0 ∧ (rdF f k l).2.2 = 0)
 | 0, _, _ => .inr ⟨rfl, rfl⟩
 | _ + 1, _, [] => .inr ⟨rfl, rfl⟩
 | f + 1, k, c :: l => by
   unfold rdF
   (repeat' split) <;> simp
theorem u8_lt (c : UInt8) : c.toNat < 256 := c.toNat_lt
/-- What is read is written again as the very bytes. -/
theorem rdF_num : ∀ (f k : Nat) (l : List UInt8) (v n : Nat), rdF f k l = (0, v, n) → n ≤ f ∧ n ≤ l.length ∧ v < 128 ^ f ∧ (0 < k → 0 < v) ∧ l.take n = numL v
 | 0, _, _, _, _, h => by simp [rdF] at h
 | _ + 1, _, [], _, _, h => by simp [rdF] at h
 | f + 1, k, c :: l, v, n, h => by
   unfold rdF at h
   have hc := u8_lt c
   split at h
   ·
    rename_i h1
    split at h
    ·
     simp at h
    ·
     rename_i h2
     simp only [Prod.mk.injEq, true_and] at h
     obtain ⟨rfl, rfl⟩ := h
     have hp : 1 ≤ 128 ^ f := Nat.one_le_pow _ _ (by omega)
     refine ⟨by omega, by simp, by rw [Nat.pow_succ]; omega, fun hk => by omega, ?_⟩
     rw [numL_lt h1]; simp
   ·
    rename_i h1
    split at h
    ·
     rename_i h2
     simp only [Prod.mk.injEq, true_and] at h
     obtain ⟨rfl, rfl⟩ := h
     obtain ⟨i1, i2, i3, i4, i5⟩ := rdF_num f (k + 1) l (rdF f (k + 1) l).2.1 (rdF f (k + 1) l).2.2 (by rw [← h2])
     have i4 := i4 (by omega)
     refine ⟨by omega, by simp; omega, by rw [Nat.pow_succ]; omega, fun _ => by omega, ?_⟩
     rw [numL_ge (by omega), List.take_succ_cons]
     have e1 : (c.toNat - 128 + 128 * (rdF f (k + 1) l).2.1) / 128 = (rdF f (k + 1) l).2.1 := by omega
     have e2 : (c.toNat - 128 + 128 * (rdF f (k + 1) l).2.1) % 128 + 128 = c.toNat := by omega
     rw [e1, e2, i5]; simp
    ·
     simp at h; omega
/-- What is written is read. -/
theorem rdF_of : ∀ (f k v : Nat) (l : List UInt8), v < 128 ^ f → (0 < k → 0 < v) → 0 < f → rdF f k (numL v ++ l) = (0, v, (numL v).length)
 | 0, _, _, _, _, _, h => by omega
 | f + 1, k, v, l, hv, hk, _ => by
   by_cases h : v < 128
   ·
    rw [numL_lt h]
    have e : (UInt8.ofNat v).toNat = v := by simp [UInt8.toNat_ofNat']; omega
    simp only [List.cons_append, List.nil_append, rdF, e]
    rw [if_pos h, if_neg (by omega)]; rfl
   ·
    rw [numL_ge (by omega)]
    have e : (UInt8.ofNat (v % 128 + 128)).toNat = v % 128 + 128 := by simp [UInt8.toNat_ofNat']; omega
    have hf : 0 < f := by
     rcases Nat.eq_zero_or_pos f with h0 | h0
     ·
      subst h0; simp at hv; omega
     ·
      exact h0
    have := rdF_of f (k + 1) (v / 128) l (by rw [Nat.div_lt_iff_lt_mul (by omega)]; rw [Nat.pow_succ] at hv; exact hv) (fun _ => by omega) hf
    simp only [List.cons_append, rdF, e, this]
    rw [if_neg (by omega), if_pos trivial]
    simp; omega
/-- The number at a place: number, the place behind it, error. -/
def rdA (bs : List UInt8) (at_ : Nat) : Nat × Nat × Nat := if (rdF 9 0 (bs.drop at_)).1 = 0 then ((rdF 9 0 (bs.drop at_)).2.1, at_ + (rdF 9 0 (bs.drop at_)).2.2, 0) else (0, 0, (rdF 9 0 (bs.drop at_)).1)
theorem rdA_ok {bs : List UInt8} {i : Nat} (h : (rdA bs i).2.2 = 0) : i < (rdA bs i).2.1 ∧ ((rdA bs i).2.1 ≤ bs.length) ∧ (rdA bs i).1 ≤ 9223372036854775807 ∧ (rdA bs i).2.1 ≤ i + 9 ∧ (bs.drop i).take ((rdA bs i).2.1 - i) = numL (rdA bs i).1 ∧ (rdA bs i).2.1 - i = (numL (rdA bs i).1).length := by
 unfold rdA at h ⊢
 by_cases h0 : (rdF 9 0 (bs.drop i)).1 = 0
 ·
  rw [if_pos h0]
  obtain ⟨h1, h2, h3, _, h5⟩ := rdF_num 9 0 (bs.drop i) (rdF 9 0 (bs.drop i)).2.1 (rdF 9 0 (bs.drop i)).2.2 (Prod.ext h0 rfl)
  have h6 := congrArg List.length h5
  rw [List.length_take] at h6
  have h7 := numL_pos (rdF 9 0 (bs.drop i)).2.1
  simp only [List.length_drop] at h2 h6
  have e : i + (rdF 9 0 (bs.drop i)).2.2 - i = (rdF 9 0 (bs.drop i)).2.2 := by omega
  dsimp only
  rw [e]
  refine ⟨by omega, by omega, ?_, by omega, h5, by omega⟩
  have : (128 : Nat) ^ 9 = 9223372036854775808 := by decide
  omega
 ·
  rw [if_neg h0] at h
  exact absurd h h0
theorem rdA_of (pre post : List UInt8) (v : Nat) (hv : v ≤ 9223372036854775807) : rdA (pre ++ numL v ++ post) pre.length = (v, pre.length + (numL v).length, 0) := by
 have h := rdF_of 9 0 v post (by have : (128 : Nat) ^ 9 = 9223372036854775808 := by decide
                                 omega) (by omega) (by omega)
 unfold rdA
 rw [List.append_assoc, List.drop_left, h]
 rfl
/-- wt is 128 to the i. -/
def Pow7 (wt i : Nat) : Prop := wt = 128 ^ i
theorem Pow7.zero : Pow7 1 0 := rfl
theorem Pow7.succ {wt i : Nat} (h : Pow7 wt i) : Pow7 (wt * 128) (i + 1) := by unfold Pow7 at *; rw [h, Nat.pow_succ]
theorem Pow7.le {wt i : Nat} (h : Pow7 wt i) (hi : i ≤ 8) : 1 ≤ wt ∧ wt ≤ 72057594037927936 := by
 unfold Pow7 at h
 subst h
 exact ⟨Nat.one_le_pow _ _ (by omega), Nat.le_trans (Nat.pow_le_pow_right (by omega) hi) (by decide)⟩
theorem Pow7.two {wt i : Nat} (h : Pow7 wt i) : wt = 2 ^ (7 * i) := by unfold Pow7 at h; rw [h, show (128 : Nat) = 2 ^ 7 from rfl, ← Nat.pow_mul]
theorem mul7 {x wt i : Nat} (hx : x < 128) (h : Pow7 wt i) (hi : i ≤ 8) : x * wt ≤ 9151314442816847872 := Nat.le_trans (Nat.mul_le_mul (show x ≤ 127 by omega) (h.le hi).2) (by decide)
theorem and127 (c : UInt8) : IntKind.u8.wrap (BitVec.ofInt IntKind.u8.bits (c.toNat : Int) &&& BitVec.ofInt IntKind.u8.bits 127).toNat = ((c.toNat % 128 : Nat) : Int) := by
 have h : (BitVec.ofInt IntKind.u8.bits (c.toNat : Int) &&& BitVec.ofInt IntKind.u8.bits 127).toNat = c.toNat % 128 := by
  rw [BitVec.toNat_and, BitVec.toNat_ofInt, BitVec.toNat_ofInt]
  have h1 : ((c.toNat : Int) % ((2 ^ IntKind.u8.bits : Nat) : Int)).toNat = c.toNat := by
   have := u8_lt c
   simp [IntKind.bits]; omega
  have h2 : ((127 : Int) % ((2 ^ IntKind.u8.bits : Nat) : Int)).toNat = 2 ^ 7 - 1 := by decide
  rw [h1, h2, Nat.and_two_pow_sub_one_eq_mod]
 rw [h, wrap_in (by simp [IntKind.min, IntKind.signed]; try omega) (by simp [IntKind.max, IntKind.signed, IntKind.bits]; try omega)]
theorem shl7 {x i wt : Nat} (hx : x < 128) (hi : i ≤ 8) (hw : Pow7 wt i) : IntKind.i64.wrap ((x : Int) * 2 ^ (min ((7 * (i : Int)).toNat) IntKind.i64.bits)) = ((x * wt : Nat) : Int) := by
 have h1 : min ((7 * (i : Int)).toNat) IntKind.i64.bits = 7 * i := by simp [IntKind.bits]; omega
 have h2 := mul7 hx hw hi
 have h3 : (x : Int) * 2 ^ (7 * i) = ((x * wt : Nat) : Int) := by rw [hw.two]; simp
 rw [h1, h3, wrap_in (by simp only [IntKind.min, IntKind.signed, IntKind.bits]; omega) (by simp only [IntKind.max, IntKind.signed, IntKind.bits]; omega)]
theorem or7 {acc x i wt : Nat} (ha : acc < wt) (hx : x < 128) (hi : i ≤ 8) (hw : Pow7 wt i) : IntKind.i64.wrap (BitVec.ofInt IntKind.i64.bits (acc : Int) ||| BitVec.ofInt IntKind.i64.bits ((x * wt : Nat) : Int)).toNat = ((acc + x * wt : Nat) : Int) := by
 have h2 := mul7 hx hw hi
 have h1 := (hw.le hi).2
 have b : ∀ n : Nat, n < 9223372036854775808 → (BitVec.ofInt IntKind.i64.bits (n : Int)).toNat = n := fun n hn => by
  rw [BitVec.toNat_ofInt]; simp only [IntKind.bits]; omega
 have h : (BitVec.ofInt IntKind.i64.bits (acc : Int) ||| BitVec.ofInt IntKind.i64.bits ((x * wt : Nat) : Int)).toNat = acc + x * wt := by
  rw [BitVec.toNat_or, b _ (by omega), b _ (by omega), Nat.or_comm, Nat.mul_comm x wt, hw.two]
  rw [hw.two] at ha
  rw [← Nat.two_pow_add_eq_or_of_lt ha, Nat.add_comm]
 rw [h, wrap_in (by simp only [IntKind.min, IntKind.signed, IntKind.bits]; omega) (by simp only [IntKind.max, IntKind.signed, IntKind.bits]; omega)]
theorem num_cell {x : Nat} (h : x < 256) : Value.int .u8 (x : Int) = bcell (UInt8.ofNat x) := by
 unfold bcell; simp [UInt8.toNat_ofNat']; omega
theorem drop_at {bs : List UInt8} {j : Nat} {x : UInt8} (hx : bs[j]? = some x) : bs.drop j = x :: bs.drop (j + 1) := by
 have hl := (List.getElem?_eq_some_iff.1 hx).1
 rw [List.drop_eq_getElem_cons hl, (List.getElem?_eq_some_iff.1 hx).2]
theorem rd_more {bs : List UInt8} {at_ i acc wt : Nat} {x : UInt8} (hi : i ≤ 8) (hx : bs[at_ + i]? = some x) (hge : 128 ≤ x.toNat) :
 lift acc wt i (rdF (9 - i) i (bs.drop (at_ + i))) = lift (acc + x.toNat % 128 * wt) (wt * 128) (i + 1) (rdF (9 - (i + 1)) (i + 1) (bs.drop (at_ + (i + 1)))) := by
 have hlt := u8_lt x
 rw [drop_at hx, show 9 - i = 9 - (i + 1) + 1 from by omega, rdF, if_neg (by omega), lift_step, Nat.mul_comm, show x.toNat - 128 = x.toNat % 128 from by omega, Nat.add_assoc]
theorem rd_short {bs : List UInt8} {at_ i acc wt : Nat} (hi : i ≤ 8) (h : bs.length ≤ at_ + i) (hI : rdF 9 0 (bs.drop at_) = lift acc wt i (rdF (9 - i) i (bs.drop (at_ + i)))) : rdA bs at_ = (0, 0, 50) := by
 rw [List.drop_of_length_le h, show 9 - i = 8 - i + 1 from by omega] at hI
 unfold rdA
 rw [hI]; rfl
theorem rd_wide {bs : List UInt8} {at_ i acc wt : Nat} {x : UInt8} (hi : i ≤ 8) (hx : bs[at_ + i]? = some x) (h0 : x.toNat = 0) (hi0 : 0 < i) (hI : rdF 9 0 (bs.drop at_) = lift acc wt i (rdF (9 - i) i (bs.drop (at_ + i)))) : rdA bs at_ = (0, 0, 51) := by
 rw [drop_at hx, show 9 - i = 8 - i + 1 from by omega, rdF, if_pos (by omega), if_pos ⟨h0, hi0⟩] at hI
 unfold rdA
 rw [hI]; rfl
theorem rd_good {bs : List UInt8} {at_ i acc wt : Nat} {x : UInt8} (hi : i ≤ 8) (hx : bs[at_ + i]? = some x) (hlt : x.toNat < 128) (h0 : ¬ (x.toNat = 0 ∧ 0 < i)) (hI : rdF 9 0 (bs.drop at_) = lift acc wt i (rdF (9 - i) i (bs.drop (at_ + i)))) : rdA bs at_ = (acc + x.toNat * wt, at_ + i + 1, 0) := by
 rw [drop_at hx, show 9 - i = 8 - i + 1 from by omega, rdF, if_pos hlt, if_neg h0] at hI
 unfold rdA
 rw [hI]
 simp only [lift, if_true, Prod.mk.injEq, and_true]
 exact ⟨by rw [Nat.mul_comm], by omega⟩
theorem rd_far {bs : List UInt8} {at_ acc wt : Nat} (hI : rdF 9 0 (bs.drop at_) = lift acc wt 9 (rdF 0 9 (bs.drop (at_ + 9)))) : rdA bs at_ = (0, 0, 51) := by
 unfold rdA
 rw [hI]; rfl
theorem rd_begin (bs : List UInt8) (at_ : Nat) : rdF 9 0 (bs.drop at_) = lift 0 1 0 (rdF (9 - 0) 0 (bs.drop (at_ + 0))) := (lift_id _ (rdF_zero 9 0 _)).symm
theorem acc_lt {acc wt x : Nat} (h : acc < wt) (hx : x < 128) : acc + x * wt < wt * 128 := by
 have h1 : x * wt ≤ 127 * wt := Nat.mul_le_mul_right _ (by omega)
 omega
end Go.Proofs.Ytfbdcllbgfohdaa.Wk
set_option linter.unusedVariables false
set_option linter.unusedSimpArgs false
namespace Go.Proofs.Ytfbdcllbgfohdaa.Wk
open Go Go.RowKit Go.Proofs.Ytfbdcllbgfohdaa Go.Proofs.Ytfbdcllbgfohdaa.K
/-! frames one behind the other -/
/-- Frames as bytes. -/
def jn (l : List (List UInt8)) : List UInt8 := l.flatMap fun b => numL b.length ++ b
theorem jn_cons (b : List UInt8) (l : List (List UInt8)) : jn (b :: l) = numL b.length ++ b ++ jn l := by simp [jn]
/-- How much frames weigh. -/
def bulk (l : List (List UInt8)) : Nat := (l.map fun b => b.length + 1).sum
theorem bulk_cons (b : List UInt8) (l : List (List UInt8)) : bulk (b :: l) = b.length + 1 + bulk l := by simp [bulk]
theorem bulk_append (l m : List (List UInt8)) : bulk (l ++ m) = bulk l + bulk m := by simp [bulk]
/-- The frames from a place on: the error, the frames. -/
def sp (bs : List UInt8) (at_ : Nat) : Nat × List (List UInt8) :=
 if h : at_ < bs.length ∧ (rdA bs at_).2.2 = 0 ∧ (rdA bs at_).1 ≤ bs.length - (rdA bs at_).2.1 then
  if (sp bs ((rdA bs at_).2.1 + (rdA bs at_).1)).1 = 0 then (0, (bs.drop (rdA bs at_).2.1).take (rdA bs at_).1 :: (sp bs ((rdA bs at_).2.1 + (rdA bs at_).1)).2)
  else ((sp bs ((rdA bs at_).2.1 + (rdA bs at_).1)).1, [])
 else if at_ < bs.length then (if (rdA bs at_).2.2 ≠ 0 then ((rdA bs at_).2.2, []) else (50, [])) else (0, [])
termination_by bs.length - at_
decreasing_by
 all_goals
  have := rdA_ok h.2.1
  have := h.1
  omega
theorem sp_end {bs : List UInt8} {i : Nat} (h : bs.length ≤ i) : sp bs i = (0, []) := by
 rw [sp, dif_neg (by omega), if_neg (by omega)]
theorem sp_err {bs : List UInt8} {i : Nat} (h : i < bs.length) (he : (rdA bs i).2.2 ≠ 0) : sp bs i = ((rdA bs i).2.2, []) := by
 rw [sp, dif_neg (by simp [he]), if_pos h, if_pos he]
theorem sp_short {bs : List UInt8} {i : Nat} (h : i < bs.length) (he : (rdA bs i).2.2 = 0) (hn : bs.length - (rdA bs i).2.1 < (rdA bs i).1) : sp bs i = (50, []) := by
 rw [sp, dif_neg (by omega), if_pos h, if_neg (by simp [he])]
theorem sp_step {bs : List UInt8} {i : Nat} (h : i < bs.length) (he : (rdA bs i).2.2 = 0) (hn : (rdA bs i).1 ≤ bs.length - (rdA bs i).2.1) : sp bs i =
 if (sp bs ((rdA bs i).2.1 + (rdA bs i).1)).1 = 0 then (0, (bs.drop (rdA bs i).2.1).take (rdA bs i).1 :: (sp bs ((rdA bs i).2.1 + (rdA bs i).1)).2)
 else ((sp bs ((rdA bs i).2.1 + (rdA bs i).1)).1, []) := by
 rw [sp, dif_pos ⟨h, he, hn⟩]
/-- What came ahead. -/
def lf (done : List (List UInt8)) (q : Nat × List (List UInt8)) : Nat × List (List UInt8) := if q.1 = 0 then (0, done ++ q.2) else (q.1, [])
/-- The frames that were joined. -/
theorem sp_of : ∀ (pre : List UInt8) (l : List (List UInt8)) (post : List UInt8), bulk l ≤ 9223372036854775807 → sp (pre ++ jn l ++ post) pre.length = if (sp (pre ++ jn l ++ post) (pre ++ jn l).length).1 = 0 then (0, l ++ (sp (pre ++ jn l ++ post) (pre ++ jn l).length).2) else ((sp (pre ++ jn l ++ post) (pre ++ jn l).length).1, [])
 | pre, [], post, _ => by
   have e : pre ++ jn [] ++ post = pre ++ post := by simp [jn]
   have e2 : (pre ++ jn []).length = pre.length := by simp [jn]
   rw [e, e2]
   by_cases h : (sp (pre ++ post) pre.length).1 = 0
   ·
    rw [if_pos h]; exact Prod.ext h rfl
   ·
    rw [if_neg h]
    refine Prod.ext rfl ?_
    rw [sp] at h ⊢
    revert h
    (repeat' split) <;> simp_all
 | pre, b :: l, post, h => by
   rw [bulk_cons] at h
   have hb : b.length ≤ 9223372036854775807 := by omega
   have ih := sp_of (pre ++ numL b.length ++ b) l post (by omega)
   have e : pre ++ jn (b :: l) ++ post = pre ++ numL b.length ++ b ++ jn l ++ post := by simp [jn_cons]
   have e1 : (pre ++ jn (b :: l)).length = (pre ++ numL b.length ++ b ++ jn l).length := by simp [jn_cons]
   have hr := rdA_of pre (b ++ jn l ++ post) b.length hb
   have e3 : pre ++ numL b.length ++ (b ++ jn l ++ post) = pre ++ numL b.length ++ b ++ jn l ++ post := by simp
   rw [e3] at hr
   rw [e, e1]
   generalize hX : pre ++ numL b.length ++ b ++ jn l ++ post = X at *
   have hp := numL_pos b.length
   have hXl : X.length = pre.length + (numL b.length).length + b.length + (jn l).length + post.length := by rw [← hX]; simp; omega
   have hd : (X.drop (pre.length + (numL b.length).length)).take b.length = b := by
    rw [← hX, show pre ++ numL b.length ++ b ++ jn l ++ post = (pre ++ numL b.length) ++ (b ++ (jn l ++ post)) from by simp, show pre.length + (numL b.length).length = (pre ++ numL b.length).length from by simp, List.drop_left, List.take_left]
   rw [sp_step (by omega) (by rw [hr]) (by rw [hr]; show b.length ≤ X.length - (pre.length + (numL b.length).length); omega), hr]
   dsimp only
   rw [hd, show pre.length + (numL b.length).length + b.length = (pre ++ numL b.length ++ b).length from by simp; omega, ih]
   generalize (pre ++ numL b.length ++ b ++ jn l).length = z
   by_cases hq : (sp X z).1 = 0
   ·
    simp [hq]
   ·
    simp [hq]
theorem sp_jn_back (l : List (List UInt8)) (h : bulk l ≤ 9223372036854775807) : sp (jn l) 0 = (0, l) := by
 have := sp_of [] l [] h
 simp only [List.nil_append, List.append_nil, List.length_nil] at this
 rw [this, sp_end (Nat.le_refl _)]
 simp
/-- A number that may not be above mo. -/
def upR (bs : List UInt8) (i : Nat) (mo : Int) : Nat × Nat × Nat := if (rdA bs i).2.2 ≠ 0 then (0, 0, (rdA bs i).2.2) else if mo < ((rdA bs i).1 : Int) then (0, 0, 51) else ((rdA bs i).1, (rdA bs i).2.1, 0)
theorem upR_err {bs : List UInt8} {i : Nat} {mo : Int} (h : (rdA bs i).2.2 ≠ 0) : upR bs i mo = (0, 0, (rdA bs i).2.2) := if_pos h
theorem upR_wide {bs : List UInt8} {i : Nat} {mo : Int} (h : (rdA bs i).2.2 = 0) (h2 : mo < ((rdA bs i).1 : Int)) : upR bs i mo = (0, 0, 51) := by unfold upR; rw [if_neg (by omega), if_pos h2]
theorem upR_ok {bs : List UInt8} {i : Nat} {mo : Int} (h : (rdA bs i).2.2 = 0) (h2 : ((rdA bs i).1 : Int) ≤ mo) : upR bs i mo = ((rdA bs i).1, (rdA bs i).2.1, 0) := by unfold upR; rw [if_neg (by omega), if_neg (by omega)]
theorem upR_law {bs : List UInt8} {i : Nat} {mo : Int} (hi : i ≤ bs.length) : (upR bs i mo).2.2 ≠ 0 ∨ ((upR bs i mo).2.2 = 0 ∧ i < (upR bs i mo).2.1 ∧ (upR bs i mo).2.1 ≤ bs.length ∧ (upR bs i mo).1 ≤ 9223372036854775807) := by
 unfold upR
 by_cases h : (rdA bs i).2.2 = 0
 ·
  obtain ⟨k1, k2, k3, k4, k5, k6⟩ := rdA_ok h
  rw [if_neg (by omega)]
  split
  ·
   simp
  ·
   simp; omega
 ·
  rw [if_pos h]; simp [h]
/-- A piece: its bytes, the place behind it, the error. -/
def pcR (bs : List UInt8) (i : Nat) (mo : Int) : List UInt8 × Nat × Nat := if (upR bs i mo).2.2 ≠ 0 then ([], 0, (upR bs i mo).2.2) else if bs.length - (upR bs i mo).2.1 < (upR bs i mo).1 then ([], 0, 50) else ((bs.drop (upR bs i mo).2.1).take (upR bs i mo).1, (upR bs i mo).2.1 + (upR bs i mo).1, 0)
theorem pcR_err {bs : List UInt8} {i : Nat} {mo : Int} (h : (upR bs i mo).2.2 ≠ 0) : pcR bs i mo = ([], 0, (upR bs i mo).2.2) := if_pos h
theorem pcR_short {bs : List UInt8} {i : Nat} {mo : Int} (h : (upR bs i mo).2.2 = 0) (h2 : bs.length - (upR bs i mo).2.1 < (upR bs i mo).1) : pcR bs i mo = ([], 0, 50) := by unfold pcR; rw [if_neg (by omega), if_pos h2]
theorem pcR_ok {bs : List UInt8} {i : Nat} {mo : Int} (h : (upR bs i mo).2.2 = 0) (h2 : (upR bs i mo).1 ≤ bs.length - (upR bs i mo).2.1) : pcR bs i mo = ((bs.drop (upR bs i mo).2.1).take (upR bs i mo).1, (upR bs i mo).2.1 + (upR bs i mo).1, 0) := by unfold pcR; rw [if_neg (by omega), if_neg (by omega)]
theorem pcR_len {bs : List UInt8} {i : Nat} {mo : Int} : (pcR bs i mo).1.length ≤ bs.length := by
 unfold pcR
 (repeat' split)
 ·
  simp
 ·
  simp
 ·
  simp; omega
/-- A piece of what is read. -/
theorem piece_rd {w : World} {A : Option Addr} {c : Nat} {bs : List UInt8} (h : Rd w 1 (.slice A bs.length c) bs.length (bs.map bcell)) (i n : Nat) (hi : i + n ≤ bs.length) :
 Rd w 1 (.slice (cutA A c 1 i) ((bs.drop i).take n).length (c - i)) ((bs.drop i).take n).length (((bs.drop i).take n).map bcell) := by
 have h' := h.cut i (i + n) (by omega) hi
 have e : ((bs.drop i).take n).length = i + n - i := by simp; omega
 rw [e]
 have e2 : ((bs.map bcell).drop (i * 1)).take ((i + n - i) * 1) = ((bs.drop i).take n).map bcell := by
  rw [List.map_take, List.map_drop, Nat.mul_one, Nat.mul_one]; congr 1; omega
 rw [e2] at h'
 exact h'
theorem slice_nat {A : Option Addr} {c : Nat} {bs : List UInt8} {i j n : Nat} (hj : j = i + n) (hn : j ≤ bs.length) : (Value.slice (cutA A c 1 ((i : Int)).toNat) (((j : Int)).toNat - ((i : Int)).toNat) (c - ((i : Int)).toNat)) = .slice (cutA A c 1 i) ((bs.drop i).take n).length (c - i) := by
 subst hj
 have : ((bs.drop i).take n).length = n := by simp; omega
 rw [this]
 simp
 omega
def str (bs : List UInt8) : ByteArray := ⟨bs.toArray⟩
theorem str_list (bs : List UInt8) : (str bs).data.toList = bs := rfl
theorem bulk_mem {l : List (List UInt8)} {i : Nat} {b : List UInt8} (h : l[i]? = some b) : b.length + 1 ≤ bulk l := by
 obtain ⟨hi, hb⟩ := List.getElem?_eq_some_iff.1 h
 have : l = l.take i ++ b :: l.drop (i + 1) := by rw [← hb]; simp
 rw [this, bulk_append, bulk_cons]; omega
theorem rd_none (w : World) : Rd w 1 (.slice none 0 0) 0 [] := ⟨none, 0, rfl, Nat.le_refl _, rfl, .inl rfl⟩
/-! beginnings of a stream -/
theorem rdF_cut : ∀ (f k v m : Nat), m < (numL v).length → m < f → rdF f k ((numL v).take m) = (50, 0, 0)
 | 0, _, _, m, _, h => by omega
 | f + 1, k, v, m, hm, hf => by
   by_cases h : v < 128
   ·
    rw [numL_lt h] at hm ⊢
    obtain rfl : m = 0 := by simp at hm; omega
    rfl
   ·
    rw [numL_ge (by omega)] at hm ⊢
    cases m with
    | zero => rfl
    | succ m =>
      have e : (UInt8.ofNat (v % 128 + 128)).toNat = v % 128 + 128 := by simp [UInt8.toNat_ofNat']; omega
      have ih := rdF_cut f (k + 1) (v / 128) m (by simp at hm; omega) (by omega)
      simp only [List.take_succ_cons, rdF, e, ih]
      rw [if_neg (by omega)]
      rfl
theorem cut_at : ∀ (l : List (List UInt8)) (n : Nat), n < (jn l).length → (∀ j, j ≤ l.length → (jn (l.take j)).length ≠ n) → ∃ j b m, l[j]? = some b ∧ 0 < m ∧ m < (numL b.length ++ b).length ∧ (jn l).take n = jn (l.take j) ++ (numL b.length ++ b).take m
 | [], n, h, _ => by simp [jn] at h
 | b :: l, n, h, hj => by
   have h0 : n ≠ 0 := fun e => hj 0 (by omega) (by rw [e]; rfl)
   have h1 := hj 1 (by simp)
   have e1 : (jn ((b :: l).take 1)) = numL b.length ++ b := by simp [jn]
   rw [e1] at h1
   rcases Nat.lt_or_ge n (numL b.length ++ b).length with h2 | h2
   ·
    refine ⟨0, b, n, rfl, by omega, h2, ?_⟩
    rw [jn_cons, List.take_append_of_le_length (by omega)]
    rfl
   ·
    obtain ⟨j, x, m, k1, k2, k3, k4⟩ := cut_at l (n - (numL b.length ++ b).length) (by rw [jn_cons, List.length_append] at h; omega) (fun j hjl he => hj (j + 1) (by simp; omega) (by rw [List.take_succ_cons, jn_cons, List.length_append, he]; omega))
    refine ⟨j + 1, x, m, by simpa using k1, k2, k3, ?_⟩
    rw [jn_cons, List.take_append, List.take_of_length_le h2, k4, List.take_succ_cons, jn_cons]
    simp only [List.append_assoc]
theorem sp_cut {l : List (List UInt8)} {n : Nat} (hl : bulk l ≤ 9223372036854775807) (h : n < (jn l).length) (hj : ∀ j, j ≤ l.length → (jn (l.take j)).length ≠ n) : sp ((jn l).take n) 0 = (50, []) := by
 obtain ⟨j, b, m, k1, k2, k3, k4⟩ := cut_at l n h hj
 have hb := bulk_mem k1
 have hbt : bulk (l.take j) ≤ bulk l := by
  have := bulk_append (l.take j) (l.drop j)
  rw [List.take_append_drop] at this
  omega
 have hs := sp_of [] (l.take j) ((numL b.length ++ b).take m) (by omega)
 rw [k4]
 simp only [List.nil_append, List.length_nil] at hs
 have h9 := numL_nine (n := b.length) (by omega)
 have key : sp (jn (l.take j) ++ (numL b.length ++ b).take m) (jn (l.take j)).length = (50, []) := by
  have hlen : (jn (l.take j) ++ (numL b.length ++ b).take m).length = (jn (l.take j)).length + m := by rw [List.length_append, List.length_take]; omega
  rcases Nat.lt_or_ge m (numL b.length).length with h1 | h1
  ·
   have hr : rdA (jn (l.take j) ++ (numL b.length ++ b).take m) (jn (l.take j)).length = (0, 0, 50) := by
    unfold rdA
    rw [List.drop_left, List.take_append_of_le_length (by omega), rdF_cut 9 0 _ _ h1 (by omega)]
    rfl
   rw [sp_err (by omega) (by rw [hr]; decide), hr]
  ·
   have e : (numL b.length ++ b).take m = numL b.length ++ b.take (m - (numL b.length).length) := by rw [List.take_append, List.take_of_length_le h1]
   have hr := rdA_of (jn (l.take j)) (b.take (m - (numL b.length).length)) b.length (by omega)
   rw [List.append_assoc, ← e] at hr
   rw [List.length_append] at k3
   exact sp_short (by omega) (by rw [hr]) (by rw [hr, hlen]; show _ + m - (_ + _) < b.length; omega)
 rw [hs, key]
 rfl
/-- Where the stream may be cut: what the walk over the list found. -/
def EndAt (l : List (List UInt8)) (n i : Nat) (e : Int) : Prop := (∃ j : Nat, j < i ∧ e = (j : Int) ∧ (jn (l.take j)).length = n) ∨ (e = -1 ∧ ∀ j, j < i → (jn (l.take j)).length ≠ n)
theorem EndAt.zero (l : List (List UInt8)) (n : Nat) : EndAt l n 0 (-1) := .inr ⟨rfl, fun j h => by omega⟩
theorem EndAt.fin {l : List (List UInt8)} {n i : Nat} {e : Int} (he : EndAt l n i e) (hi : i = l.length + 1) (hl : bulk l ≤ 9223372036854775807) (hn : n < (jn l).length ∨ (n = 0 ∧ (jn l).length = 0)) :
 (0 ≤ e ∧ (e.toNat ≤ l.length ∧ sp ((jn l).take n) 0 = (0, l.take e.toNat))) ∨ (e < 0 ∧ sp ((jn l).take n) 0 = (50, [])) := by
 subst hi
 rcases he with ⟨j, h1, h2, h3⟩ | ⟨h1, h2⟩
 ·
  subst h2
  refine .inl ⟨by omega, by simp; omega, ?_⟩
  have e : jn l = jn (l.take j) ++ jn (l.drop j) := by
   unfold jn
   rw [← List.flatMap_append, List.take_append_drop]
  have e2 : (jn l).take n = jn (l.take j) := by rw [e, ← h3, List.take_left]
  have hbt : bulk (l.take j) ≤ bulk l := by
   have := bulk_append (l.take j) (l.drop j)
   rw [List.take_append_drop] at this
   omega
  rw [e2, sp_jn_back _ (by omega)]
  simp
 ·
  refine .inr ⟨by omega, sp_cut hl ?_ fun j hj => h2 j (by omega)⟩
  rcases hn with h | ⟨h, _⟩
  ·
   exact h
  ·
   exact absurd (show (jn (l.take 0)).length = n by rw [h]; rfl) (h2 0 (by omega))
theorem Sat.none_ {W w : World} {L : List As} (s : Sat W w L) : Sat W w [] := by
 have := s.perm (L' := L ++ []) (by simp)
 exact this.past
end Go.Proofs.Ytfbdcllbgfohdaa.Wk
set_option linter.unusedVariables false
set_option linter.unusedSimpArgs false
namespace Go.Proofs.Ytfbdcllbgfohdaa.Wk
open Go Go.RowKit Go.Proofs.Ytfbdcllbgfohdaa Go.Proofs.Ytfbdcllbgfohdaa.K
/-! readers -/
def rdc (r : Nat) (A : Option Addr) (c : Nat) (bs : List UInt8) (at_ : Int) (live : Bool) (err : Int) : As := pto r (.cells #[.slice A bs.length c, .int .i64 at_, .bool live, .int .i64 err] 88)
/-- A count of things of at least each bytes. -/
def cnR (bs : List UInt8) (i : Nat) (each : Int) : Nat × Nat × Nat := if (rdA bs i).2.2 ≠ 0 then (0, 0, (rdA bs i).2.2) else if ((bs.length : Int) - ((rdA bs i).2.1 : Int)) / max each 1 < ((rdA bs i).1 : Int) then (0, 0, 50) else ((rdA bs i).1, (rdA bs i).2.1, 0)
theorem cnR_err {bs : List UInt8} {i : Nat} {each : Int} (h : (rdA bs i).2.2 ≠ 0) : cnR bs i each = (0, 0, (rdA bs i).2.2) := if_pos h
theorem cnR_short {bs : List UInt8} {i : Nat} {each : Int} (h : (rdA bs i).2.2 = 0) (h2 : ((bs.length : Int) - ((rdA bs i).2.1 : Int)) / max each 1 < ((rdA bs i).1 : Int)) : cnR bs i each = (0, 0, 50) := by unfold cnR; rw [if_neg (by omega), if_pos h2]
theorem cnR_ok {bs : List UInt8} {i : Nat} {each : Int} (h : (rdA bs i).2.2 = 0) (h2 : ¬ ((bs.length : Int) - ((rdA bs i).2.1 : Int)) / max each 1 < ((rdA bs i).1 : Int)) : cnR bs i each = ((rdA bs i).1, (rdA bs i).2.1, 0) := by unfold cnR; rw [if_neg (by omega), if_neg h2]
/-- A yes or no: what it is, the place behind it, the error. -/
def flR (bs : List UInt8) (i : Nat) : Bool × Nat × Nat := match bs[i]? with
 | none => (false, 0, 50)
 | some x => if 1 < x.toNat then (false, 0, 51) else (x.toNat == 1, i + 1, 0)
theorem upR_max {bs : List UInt8} {i : Nat} : (upR bs i 9223372036854775807).2.2 = (rdA bs i).2.2 ∧ ((rdA bs i).2.2 = 0 → (upR bs i 9223372036854775807).1 = (rdA bs i).1 ∧ (upR bs i 9223372036854775807).2.1 = (rdA bs i).2.1) := by
 by_cases h : (rdA bs i).2.2 = 0
 ·
  have := (rdA_ok h).2.2.1
  rw [upR_ok h (by omega)]
  exact ⟨h.symm, fun _ => ⟨rfl, rfl⟩⟩
 ·
  rw [upR_err h]
  exact ⟨rfl, fun h' => absurd h' h⟩
theorem take_rd {w : World} {A : Option Addr} {c : Nat} {bs : List UInt8} {i : Nat} {mo : Int} (h : Rd w 1 (.slice A bs.length c) bs.length (bs.map bcell)) (hi : i ≤ bs.length) (h0 : (pcR bs i mo).2.2 = 0) :
 Rd w 1 (.slice (cutA A c 1 (upR bs i mo).2.1) (pcR bs i mo).1.length (c - (upR bs i mo).2.1)) (pcR bs i mo).1.length ((pcR bs i mo).1.map bcell) := by
 rcases upR_law (mo := mo) hi with hu | ⟨hu, h1, h2, h3⟩
 ·
  rw [pcR_err hu] at h0; exact absurd h0 hu
 ·
  by_cases h4 : (upR bs i mo).1 ≤ bs.length - (upR bs i mo).2.1
  ·
   rw [pcR_ok hu h4]
   exact piece_rd h _ _ (by omega)
  ·
   rw [pcR_short hu (by omega)] at h0; cases h0
end Go.Proofs.Ytfbdcllbgfohdaa.Wk
set_option linter.unusedVariables false
set_option linter.unusedSimpArgs false
namespace Go.Proofs.Ytfbdcllbgfohdaa.Wk
open Go Go.RowKit Go.Proofs.Ytfbdcllbgfohdaa Go.Proofs.Ytfbdcllbgfohdaa.K
/-! writers -/
/-- What one put comes to: its bytes; may it be put? -/
def pb (kd n : Int) (b : Bool) (s : ByteArray) : List UInt8 × Bool :=
 if kd = 1 then (if n < 0 then ([], false) else (numL n.toNat, true))
 else if kd = 2 then ([if b then 1 else 0], true)
 else if kd = 3 ∨ kd = 4 then (numL s.data.toList.length ++ s.data.toList, true)
 else ([], true)
structure PutD where
 kd : Int
 n : Int
 b : Bool
 s : ByteArray
def encP (p : PutD) : List Value := [.int .i64 p.kd, .int .i64 p.n, .bool p.b, .string p.s]
def PutD.pb (p : PutD) : List UInt8 × Bool := Wk.pb p.kd p.n p.b p.s
/-- What a row of puts comes to. -/
def byR (l : List PutD) : List UInt8 × Bool := if l.all (fun p => p.pb.2) then (l.flatMap (fun p => p.pb.1), true) else ([], false)
def byT (l : List PutD) (i : Nat) : List UInt8 := (l.take i).flatMap (fun p => p.pb.1)
def okT (l : List PutD) (i : Nat) : Prop := (l.take i).all (fun p => p.pb.2) = true
def byW (l : List PutD) : Nat := (l.map fun p => p.s.size + 9).sum
theorem pb1n {n : Int} {b : Bool} {s : ByteArray} (h : n < 0) : pb 1 n b s = ([], false) := by unfold pb; rw [if_pos rfl, if_pos h]
theorem pb1 {n : Int} {b : Bool} {s : ByteArray} (h : ¬ n < 0) : pb 1 n b s = (numL n.toNat, true) := by unfold pb; rw [if_pos rfl, if_neg h]
theorem pb2 {n : Int} {b : Bool} {s : ByteArray} : pb 2 n b s = ([if b then 1 else 0], true) := rfl
theorem pb3 {kd n : Int} {b : Bool} {s : ByteArray} (h : kd = 3 ∨ kd = 4) : pb kd n b s = (numL s.data.toList.length ++ s.data.toList, true) := by unfold pb; rw [if_neg (by omega), if_neg (by omega), if_pos h]
def wst (p : Nat) (A : Option Addr) (c : Nat) (bs : List UInt8) (bad : Bool) : As := pto p (.cells #[.slice A bs.length c, .bool bad] 96)
def xo (x : UInt8) : UInt8 := UInt8.ofNat (IntKind.u8.wrap ((BitVec.ofInt IntKind.u8.bits (x.toNat : Int) ^^^ BitVec.ofInt IntKind.u8.bits 90).toNat : Int)).toNat
end Go.Proofs.Ytfbdcllbgfohdaa.Wk
set_option linter.unusedVariables false
set_option linter.unusedSimpArgs false
namespace Go.Proofs.Ytfbdcllbgfohdaa.Wk
open Go Go.RowKit Go.Proofs.Ytfbdcllbgfohdaa Go.Proofs.Ytfbdcllbgfohdaa.K
/-! mails as bytes -/
abbrev PV := Int × List UInt8
structure MailV where
 k : Int
 f : Int
 t : Int
 lo : Int
 hi : Int
 ps : List PV
def partB (p : PV) : List UInt8 := numL p.1.toNat ++ (numL p.2.length ++ p.2)
def partsB (ps : List PV) : List UInt8 := ps.flatMap partB
def headB (m : MailV) : List UInt8 := numL m.k.toNat ++ (numL m.f.toNat ++ (numL m.t.toNat ++ (numL m.lo.toNat ++ (numL m.hi.toNat ++ numL m.ps.length))))
def mailB (m : MailV) : List UInt8 := headB m ++ partsB m.ps
def inN (x : Int) : Prop := 0 ≤ x ∧ x ≤ 9223372036854775807
def okP (ps : List PV) : Prop := ∀ p ∈ ps, inN p.1 ∧ p.2.length ≤ 9223372036854775807
def okV (m : MailV) : Prop := inN m.k ∧ inN m.f ∧ inN m.t ∧ inN m.lo ∧ inN m.hi ∧ m.ps.length ≤ 9223372036854775807 ∧ okP m.ps
def GoodC (cs : List Int) : Prop := ∀ (i : Nat) (c : Int), cs[i]? = some c → 0 ≤ c ∧ c < 64 ∧ ∀ d, 0 < i → cs[i - 1]? = some d → d < c
def FormC (k f t lo hi : Int) (cs : List Int) : Prop := 0 ≤ f ∧ f < 16 ∧ 0 ≤ t ∧ t < 16 ∧ f ≠ t ∧ Wm.Itv k lo hi cs.length ∧ GoodC cs
def FormV (m : MailV) : Prop := FormC m.k m.f m.t m.lo m.hi (m.ps.map Prod.fst)
/-- Parts that stand one behind the other. -/
def prs (bs : List UInt8) : Nat → Nat → Option (List PV × Nat)
 | 0, i => some ([], i)
 | n + 1, i => if (rdA bs i).2.2 ≠ 0 then none else if (rdA bs (rdA bs i).2.1).2.2 ≠ 0 then none else
     if bs.length - (rdA bs (rdA bs i).2.1).2.1 < (rdA bs (rdA bs i).2.1).1 then none else
     (prs bs n ((rdA bs (rdA bs i).2.1).2.1 + (rdA bs (rdA bs i).2.1).1)).map fun r => (((((rdA bs i).1 : Nat) : Int), (bs.drop (rdA bs (rdA bs i).2.1).2.1).take (rdA bs (rdA bs i).2.1).1) :: r.1, r.2)
def got (bs : List UInt8) (k f t lo hi : Nat) (r : Option (List PV × Nat)) : Option MailV := match r with
 | none => none
 | some (ps, i) => if i = bs.length then some ⟨k, f, t, lo, hi, ps⟩ else none
/-- The mail that the bytes are, in form or not. -/
def gP (bs : List UInt8) : Option MailV :=
 if (rdA bs 0).2.2 ≠ 0 then none else if (rdA bs (rdA bs 0).2.1).2.2 ≠ 0 then none else if (rdA bs (rdA bs (rdA bs 0).2.1).2.1).2.2 ≠ 0 then none else
 if (rdA bs (rdA bs (rdA bs (rdA bs 0).2.1).2.1).2.1).2.2 ≠ 0 then none else if (rdA bs (rdA bs (rdA bs (rdA bs (rdA bs 0).2.1).2.1).2.1).2.1).2.2 ≠ 0 then none else
 if (rdA bs (rdA bs (rdA bs (rdA bs (rdA bs (rdA bs 0).2.1).2.1).2.1).2.1).2.1).2.2 ≠ 0 then none else
 got bs (rdA bs 0).1 (rdA bs (rdA bs 0).2.1).1 (rdA bs (rdA bs (rdA bs 0).2.1).2.1).1 (rdA bs (rdA bs (rdA bs (rdA bs 0).2.1).2.1).2.1).1 (rdA bs (rdA bs (rdA bs (rdA bs (rdA bs 0).2.1).2.1).2.1).2.1).1
  (prs bs (rdA bs (rdA bs (rdA bs (rdA bs (rdA bs (rdA bs 0).2.1).2.1).2.1).2.1).2.1).1 (rdA bs (rdA bs (rdA bs (rdA bs (rdA bs (rdA bs 0).2.1).2.1).2.1).2.1).2.1).2.1)
section
variable {bs : List UInt8} {v0 v1 v2 v3 v4 v5 a1 a2 a3 a4 a5 a6 e0 e1 e2 e3 e4 e5 : Nat}
theorem gP0 (h0 : rdA bs 0 = (v0, a1, e0)) (he : e0 ≠ 0) : gP bs = none := by unfold gP; rw [h0]; exact if_pos he
theorem gP1 (h0 : rdA bs 0 = (v0, a1, 0)) (h1 : rdA bs a1 = (v1, a2, e1)) (he : e1 ≠ 0) : gP bs = none := by unfold gP; simp only [h0, h1]; simp [he]
theorem gP2 (h0 : rdA bs 0 = (v0, a1, 0)) (h1 : rdA bs a1 = (v1, a2, 0)) (h2 : rdA bs a2 = (v2, a3, e2)) (he : e2 ≠ 0) : gP bs = none := by unfold gP; simp only [h0, h1, h2]; simp [he]
theorem gP3 (h0 : rdA bs 0 = (v0, a1, 0)) (h1 : rdA bs a1 = (v1, a2, 0)) (h2 : rdA bs a2 = (v2, a3, 0)) (h3 : rdA bs a3 = (v3, a4, e3)) (he : e3 ≠ 0) : gP bs = none := by unfold gP; simp only [h0, h1, h2, h3]; simp [he]
theorem gP4 (h0 : rdA bs 0 = (v0, a1, 0)) (h1 : rdA bs a1 = (v1, a2, 0)) (h2 : rdA bs a2 = (v2, a3, 0)) (h3 : rdA bs a3 = (v3, a4, 0)) (h4 : rdA bs a4 = (v4, a5, e4)) (he : e4 ≠ 0) : gP bs = none := by unfold gP; simp only [h0, h1, h2, h3, h4]; simp [he]
theorem gP5 (h0 : rdA bs 0 = (v0, a1, 0)) (h1 : rdA bs a1 = (v1, a2, 0)) (h2 : rdA bs a2 = (v2, a3, 0)) (h3 : rdA bs a3 = (v3, a4, 0)) (h4 : rdA bs a4 = (v4, a5, 0)) (h5 : rdA bs a5 = (v5, a6, e5)) (he : e5 ≠ 0) : gP bs = none := by unfold gP; simp only [h0, h1, h2, h3, h4, h5]; simp [he]
theorem gP6 (h0 : rdA bs 0 = (v0, a1, 0)) (h1 : rdA bs a1 = (v1, a2, 0)) (h2 : rdA bs a2 = (v2, a3, 0)) (h3 : rdA bs a3 = (v3, a4, 0)) (h4 : rdA bs a4 = (v4, a5, 0)) (h5 : rdA bs a5 = (v5, a6, 0)) : gP bs = got bs v0 v1 v2 v3 v4 (prs bs v5 a6) := by unfold gP; simp only [h0, h1, h2, h3, h4, h5]; simp
end
theorem rdA_is {bs : List UInt8} {i v j : Nat} (h : rdA bs i = (v, j, 0)) : i < j ∧ j ≤ bs.length ∧ v ≤ 9223372036854775807 ∧ (bs.drop i).take (j - i) = numL v := by
 have := rdA_ok (bs := bs) (i := i) (by rw [h])
 rw [h] at this
 exact ⟨this.1, this.2.1, this.2.2.1, this.2.2.2.2.1⟩
/-- What stands between i and j. -/
def seg (bs : List UInt8) (i j : Nat) : List UInt8 := (bs.drop i).take (j - i)
theorem seg_app {bs : List UInt8} {i j k : Nat} (h1 : i ≤ j) (h2 : j ≤ k) (h3 : k ≤ bs.length) : seg bs i k = seg bs i j ++ seg bs j k := by
 unfold seg
 have e : (bs.drop i).take (k - i) = (bs.drop i).take ((j - i) + (k - j)) := by congr 1; omega
 rw [e, List.take_add, List.drop_drop, show i + (j - i) = j from by omega]
theorem prs_law : ∀ (bs : List UInt8) (n i : Nat) (ps : List PV) (j : Nat), i ≤ bs.length → bs.length ≤ 9223372036854775807 → prs bs n i = some (ps, j) → ps.length = n ∧ i ≤ j ∧ j ≤ bs.length ∧ seg bs i j = partsB ps ∧ okP ps ∧ i + 2 * n ≤ j
 | bs, 0, i, ps, j, hi, _, h => by
   simp only [prs, Option.some.injEq, Prod.mk.injEq] at h
   obtain ⟨rfl, rfl⟩ := h
   exact ⟨rfl, Nat.le_refl _, hi, by simp [seg, partsB], fun p hp => (by cases hp), by omega⟩
 | bs, n + 1, i, ps, j, hi, hl, h => by
   unfold prs at h
   by_cases h1 : (rdA bs i).2.2 = 0
   ·
    rw [if_neg (by omega)] at h
    by_cases h2 : (rdA bs (rdA bs i).2.1).2.2 = 0
    ·
     rw [if_neg (by omega)] at h
     obtain ⟨v, a, hr⟩ : ∃ v a, rdA bs i = (v, a, 0) := ⟨_, _, by rw [← h1]⟩
     rw [hr] at h h2
     obtain ⟨z, b, hs⟩ : ∃ v b, rdA bs a = (v, b, 0) := ⟨_, _, by rw [← h2]⟩
     rw [hs] at h
     dsimp only at h
     obtain ⟨q1, q2, q3, q4⟩ := rdA_is hr
     obtain ⟨r1, r2, r3, r4⟩ := rdA_is hs
     split at h
     ·
      cases h
     ·
      rename_i hz
      cases hp : prs bs n (b + z) with
      | none => rw [hp] at h; cases h
      | some r =>
        rw [hp] at h
        obtain ⟨qs, j'⟩ := r
        simp only [Option.map_some, Option.some.injEq, Prod.mk.injEq] at h
        obtain ⟨rfl, rfl⟩ := h
        obtain ⟨s1, s2, s3, s4, s5, s6⟩ := prs_law bs n (b + z) qs j' (by omega) hl hp
        have hlen : ((bs.drop b).take z).length = z := by simp; omega
        have e3 : seg bs b (b + z) = (bs.drop b).take z := by unfold seg; congr 1; omega
        refine ⟨by simp [s1], by omega, s3, ?_, ?_, by omega⟩
        ·
         rw [seg_app (j := a) (by omega) (by omega) s3, seg_app (i := a) (j := b) (by omega) (by omega) s3, seg_app (i := b) (j := b + z) (by omega) (by omega) s3, s4, e3, show seg bs i a = numL v from q4, show seg bs a b = numL z from r4]
         unfold partsB
         simp only [List.flatMap_cons, partB, Int.toNat_natCast, hlen, List.append_assoc]
        ·
         intro p hp'
         rcases List.mem_cons.1 hp' with rfl | hp'
         ·
          exact ⟨⟨by dsimp only; omega, by dsimp only; omega⟩, by dsimp only; rw [hlen]; omega⟩
         ·
          exact s5 p hp'
    ·
     rw [if_pos h2] at h; cases h
   ·
    rw [if_pos h1] at h; cases h
theorem prs_of : ∀ (ps : List PV) (pre post : List UInt8), okP ps → prs (pre ++ partsB ps ++ post) ps.length pre.length = some (ps, (pre ++ partsB ps).length)
 | [], pre, post, _ => by simp [prs, partsB]
 | p :: ps, pre, post, h => by
   obtain ⟨⟨h1, h2⟩, h3⟩ := h p (by simp)
   have e : pre ++ partsB (p :: ps) ++ post = pre ++ numL p.1.toNat ++ (numL p.2.length ++ p.2 ++ partsB ps ++ post) := by simp [partsB, partB]
   have r1 := rdA_of pre (numL p.2.length ++ p.2 ++ partsB ps ++ post) p.1.toNat (by omega)
   have e2 : pre ++ numL p.1.toNat ++ (numL p.2.length ++ p.2 ++ partsB ps ++ post) = (pre ++ numL p.1.toNat) ++ numL p.2.length ++ (p.2 ++ partsB ps ++ post) := by simp
   have r2 := rdA_of (pre ++ numL p.1.toNat) (p.2 ++ partsB ps ++ post) p.2.length h3
   rw [← e2, List.length_append] at r2
   have e3 : pre ++ numL p.1.toNat ++ (numL p.2.length ++ p.2 ++ partsB ps ++ post) = (pre ++ numL p.1.toNat ++ numL p.2.length) ++ (p.2 ++ (partsB ps ++ post)) := by simp
   have e4 : pre ++ numL p.1.toNat ++ (numL p.2.length ++ p.2 ++ partsB ps ++ post) = (pre ++ numL p.1.toNat ++ numL p.2.length ++ p.2) ++ partsB ps ++ post := by simp
   have ih := prs_of ps (pre ++ numL p.1.toNat ++ numL p.2.length ++ p.2) post (fun q hq => h q (by simp [hq]))
   rw [← e4] at ih
   rw [e, List.length_cons, prs]
   simp only [r1, r2]
   rw [if_neg (by simp), if_neg (by simp), if_neg (by simp; omega)]
   rw [show pre.length + (numL p.1.toNat).length + (numL p.2.length).length + p.2.length = (pre ++ numL p.1.toNat ++ numL p.2.length ++ p.2).length from by simp; omega, ih]
   simp only [Option.map_some, Option.some.injEq, Prod.mk.injEq, List.cons.injEq, and_true]
   refine ⟨?_, by simp [partsB, partB]⟩
   rw [e3, show pre.length + (numL p.1.toNat).length + (numL p.2.length).length = (pre ++ numL p.1.toNat ++ numL p.2.length).length from by simp; omega, List.drop_left, List.take_left]
   exact Prod.ext (by dsimp only; omega) rfl
theorem got_some {bs : List UInt8} {k f t lo hi : Nat} {r : Option (List PV × Nat)} {m : MailV} (h : got bs k f t lo hi r = some m) : r = some (m.ps, bs.length) ∧ m = ⟨k, f, t, lo, hi, m.ps⟩ := by
 unfold got at h
 split at h
 ·
  cases h
 ·
  split at h
  ·
   rename_i hi; subst hi; cases h; exact ⟨rfl, rfl⟩
  ·
   cases h
/-- A mail's bytes, and more. -/
theorem gP_of {m : MailV} (post : List UInt8) (h : okV m) : gP (mailB m ++ post) = if post = [] then some m else none := by
 obtain ⟨k, f, t, lo, hi, ps⟩ := m
 obtain ⟨hk, hf, ht, hlo, hhi, hn, hp⟩ := h
 dsimp only [inN] at hk hf ht hlo hhi hn hp
 generalize hbs : mailB ⟨k, f, t, lo, hi, ps⟩ ++ post = bs
 have e : bs = numL k.toNat ++ (numL f.toNat ++ (numL t.toNat ++ (numL lo.toNat ++ (numL hi.toNat ++ (numL ps.length ++ (partsB ps ++ post)))))) := by rw [← hbs]; simp [mailB, headB]
 have h0 := rdA_of [] (numL f.toNat ++ (numL t.toNat ++ (numL lo.toNat ++ (numL hi.toNat ++ (numL ps.length ++ (partsB ps ++ post)))))) k.toNat (by omega)
 have h1 := rdA_of (numL k.toNat) (numL t.toNat ++ (numL lo.toNat ++ (numL hi.toNat ++ (numL ps.length ++ (partsB ps ++ post))))) f.toNat (by omega)
 have h2 := rdA_of (numL k.toNat ++ numL f.toNat) (numL lo.toNat ++ (numL hi.toNat ++ (numL ps.length ++ (partsB ps ++ post)))) t.toNat (by omega)
 have h3 := rdA_of (numL k.toNat ++ numL f.toNat ++ numL t.toNat) (numL hi.toNat ++ (numL ps.length ++ (partsB ps ++ post))) lo.toNat (by omega)
 have h4 := rdA_of (numL k.toNat ++ numL f.toNat ++ numL t.toNat ++ numL lo.toNat) (numL ps.length ++ (partsB ps ++ post)) hi.toNat (by omega)
 have h5 := rdA_of (numL k.toNat ++ numL f.toNat ++ numL t.toNat ++ numL lo.toNat ++ numL hi.toNat) (partsB ps ++ post) ps.length hn
 have h6 := prs_of ps (numL k.toNat ++ numL f.toNat ++ numL t.toNat ++ numL lo.toNat ++ numL hi.toNat ++ numL ps.length) post hp
 simp only [List.append_assoc, List.nil_append, ← e] at h0 h1 h2 h3 h4 h5 h6
 simp only [List.length_append, List.length_nil, Nat.zero_add, ← Nat.add_assoc] at h0 h1 h2 h3 h4 h5 h6
 rw [gP6 h0 h1 h2 h3 h4 h5, h6]
 have hl : bs.length = (numL k.toNat).length + (numL f.toNat).length + (numL t.toNat).length + (numL lo.toNat).length + (numL hi.toNat).length + (numL ps.length).length + (partsB ps).length + post.length := by rw [e]; simp only [List.length_append]; omega
 unfold got
 dsimp only
 by_cases hpo : post = []
 ·
  subst hpo
  rw [if_pos rfl, if_pos (by rw [hl]; simp)]
  simp only [Option.some.injEq, MailV.mk.injEq, and_true]
  omega
 ·
  have : 0 < post.length := List.length_pos_iff.2 hpo
  rw [if_neg hpo, if_neg (by rw [hl]; omega)]
theorem gP_back {m : MailV} (h : okV m) : gP (mailB m) = some m := by have := gP_of (m := m) [] h; simpa using this
theorem form_ok {m : MailV} (h : FormV m) (hb : ∀ p ∈ m.ps, p.2.length ≤ 9223372036854775807) : okV m := by
 obtain ⟨h1, h2, h3, h4, h5, h6, h7⟩ := h
 have hc : ∀ p ∈ m.ps, 0 ≤ p.1 ∧ p.1 < 64 := fun p hp => by
  obtain ⟨i, hi⟩ := List.getElem?_of_mem hp
  obtain ⟨g1, g2, _⟩ := h7 i p.1 (by rw [List.getElem?_map, hi]; rfl)
  exact ⟨g1, g2⟩
 have hn : m.ps.length ≤ 64 := by
  have key : ∀ (i : Nat) (c : Int), (m.ps.map Prod.fst)[i]? = some c → (i : Int) ≤ c := by
   intro i
   induction i with
   | zero => intro c hc; exact (h7 0 c hc).1
   | succ i ih =>
     intro c hc
     have hlt := (List.getElem?_eq_some_iff.1 hc).1
     obtain ⟨d, hd⟩ : ∃ d, (m.ps.map Prod.fst)[i]? = some d := ⟨_, List.getElem?_eq_getElem (by omega)⟩
     have := (h7 (i + 1) c hc).2.2 d (by omega) hd
     have := ih d hd
     omega
  by_cases h0 : m.ps.length = 0
  ·
   omega
  ·
   obtain ⟨c, hc⟩ : ∃ c, (m.ps.map Prod.fst)[m.ps.length - 1]? = some c := ⟨_, List.getElem?_eq_getElem (by simp; omega)⟩
   have := key _ c hc
   have := (h7 _ c hc).2.1
   omega
 unfold Wm.Itv at h6
 exact ⟨⟨by omega, by omega⟩, ⟨h1, by omega⟩, ⟨h3, by omega⟩, ⟨by omega, by omega⟩, ⟨by omega, by omega⟩, by omega, fun p hp => ⟨⟨(hc p hp).1, by have := (hc p hp).2; omega⟩, hb p hp⟩⟩
end Go.Proofs.Ytfbdcllbgfohdaa.Wk
set_option linter.unusedVariables false
set_option linter.unusedSimpArgs false
namespace Go.Proofs.Ytfbdcllbgfohdaa.K
open Go Go.RowKit
variable {ds : List Deferred}
section
variable {P : Program} {ops : Array Oper} {Q : Exit → Act → World → Prop} {a : Act} {n : Nat} {E : Env} {w w' W : World} {d : Nat}
variable {ty : TypeId} {ps : String} {af : Array Edge} {gd : Option (Nat × Bool)}
theorem eFy {i : Nat} {K : Act → World → Prop} {f : Nat} {l : List Operand} {tys : Array TypeId} {vs : List Value} {R : Ending → World → Prop} (hA : Ag a n E ds) (hi : ops[i]? = some ⟨some d, .call { callee := .value (.func f), args := l.toArray, argTypes := tys }, ty, ps, af, gd⟩)
 (hw : Region.wanted ⟨some d, .call { callee := .value (.func f), args := l.toArray, argTypes := tys }, ty, ps, af, gd⟩ (yielded ops a.tmps) = true)
 (hn : Nat.blt d n = true) (hf : enters P f = true) (hv : evl E l = some vs) (hc : Calls P f vs.toArray w R) (k : ∀ e w', R e w' → ∃ v, e = .returned v ∧ ∀ a', Ag a' n ((d, v) :: E) ds → K a' w') : wpOp P ops Q i K a w := by
 unfold wpOp
 simp only [hi]
 rw [if_pos hw]
 refine .inl ?_
 simp only [Oper.wp, r_callE hA hf hv, Oper.upon]
 refine hc.mono fun e w' h => ?_
 obtain ⟨v, rfl, hk⟩ := k e w' h
 exact hk _ (hA.put hn v)
end
end Go.Proofs.Ytfbdcllbgfohdaa.K
set_option linter.unusedVariables false
set_option linter.unusedSimpArgs false
namespace Go.Proofs.Ytfbdcllbgfohdaa.Wk
open Go Go.RowKit Go.Proofs.Ytfbdcllbgfohdaa Go.Proofs.Ytfbdcllbgfohdaa.K
/-! mails in memory -/
structure PartW where
 cart : Int
 A : Option Addr
 c : Nat
 b : List UInt8
def encW (p : PartW) : List Value := [.int .i64 p.cart, .slice p.A p.b.length p.c]
def PartW.val (p : PartW) : PV := (p.cart, p.b)
def PartW.fr (p : PartW) : FrD := ⟨p.A, p.c, p.b⟩
theorem partW_at {ps : List PartW} {i : Nat} {p : PartW} (h : ps[i]? = some p) : ∀ j u, (encW p)[j]? = some u → (ps.flatMap encW)[i * 2 + j]? = some u := flat_at encW 2 (fun _ => rfl) ps _ p h
def ints (b : List UInt8) : List Int := b.map fun x => (x.toNat : Int)
def toD (p : PartW) : Wm.PartD := ⟨p.cart, p.A, p.c, ints p.b⟩
theorem ints_len (b : List UInt8) : (ints b).length = b.length := by simp [ints]
theorem ints_cells (b : List UInt8) : (ints b).map (Value.int .u8) = b.map bcell := by simp [ints, Function.comp_def, bcell]
theorem ints_inj {a b : List UInt8} : ints a = ints b ↔ a = b := by
 constructor
 ·
  intro h
  induction a generalizing b with
  | nil => cases b with
    | nil => rfl
    | cons y b => simp [ints] at h
  | cons x a ih => cases b with
    | nil => simp [ints] at h
    | cons y b =>
      simp only [ints, List.map_cons, List.cons.injEq] at h
      have h1 : x = y := UInt8.toNat_inj.1 (by omega)
      rw [h1, ih h.2]
 ·
  rintro rfl; rfl
theorem encD (p : PartW) : Wm.encP (toD p) = encW p := by simp [Wm.encP, toD, encW, ints_len]
theorem flatD (ps : List PartW) : (ps.map toD).flatMap Wm.encP = ps.flatMap encW := by rw [List.flatMap_map]; congr 1; funext p; exact encD p
theorem lenD (ps : List PartW) : (ps.map toD).length = ps.length := by simp
theorem formD {k f t lo hi : Int} {ps : List PartW} : Wm.Form k f t lo hi (ps.map toD) ↔ FormC k f t lo hi (ps.map PartW.cart) := by
 have hg : (∀ i, Wm.Good (ps.map toD) i) ↔ GoodC (ps.map PartW.cart) := by
  constructor
  ·
   intro h i c hc
   rw [List.getElem?_map] at hc
   cases hp : ps[i]? with
   | none => rw [hp] at hc; cases hc
   | some p =>
     rw [hp] at hc
     obtain rfl : p.cart = c := Option.some.inj hc
     obtain ⟨h1, h2, h3⟩ := h i (toD p) (by rw [List.getElem?_map, hp]; rfl)
     refine ⟨h1, h2, fun d h0 hd => ?_⟩
     rw [List.getElem?_map] at hd
     cases hq : ps[i - 1]? with
     | none => rw [hq] at hd; cases hd
     | some q =>
       rw [hq] at hd
       obtain rfl : q.cart = d := Option.some.inj hd
       exact h3 (toD q) h0 (by rw [List.getElem?_map, hq]; rfl)
  ·
   intro h i p hp
   rw [List.getElem?_map] at hp
   cases hq : ps[i]? with
   | none => rw [hq] at hp; cases hp
   | some q =>
     rw [hq] at hp
     obtain rfl : toD q = p := Option.some.inj hp
     obtain ⟨h1, h2, h3⟩ := h i q.cart (by rw [List.getElem?_map, hq]; rfl)
     refine ⟨h1, h2, fun r h0 hr => ?_⟩
     rw [List.getElem?_map] at hr
     cases hs : ps[i - 1]? with
     | none => rw [hs] at hr; cases hr
     | some s =>
       rw [hs] at hr
       obtain rfl : toD s = r := Option.some.inj hr
       exact h3 s.cart h0 (by rw [List.getElem?_map, hs]; rfl)
 unfold Wm.Form FormC
 rw [hg, lenD, List.length_map]
theorem formP {k f t lo hi : Int} {ps : List PartW} : FormV ⟨k, f, t, lo, hi, ps.map PartW.val⟩ ↔ FormC k f t lo hi (ps.map PartW.cart) := by
 unfold FormV; simp only [List.map_map]; rfl
def BodW (W : World) (ps : List PartW) : Prop := ∀ p ∈ ps, Rd W 1 (.slice p.A p.b.length p.c) p.b.length (p.b.map bcell) ∧ p.b.length ≤ 140737488355328
theorem BodW.sat {W w : World} {L : List As} {ps : List PartW} (h : BodW W ps) (s : Sat W w L) : BodW w ps := fun p hp => ⟨(h p hp).1.sat s, (h p hp).2⟩
theorem bodD {W : World} {ps : List PartW} (h : BodW W ps) : Wm.Bodies W (ps.map toD) := by
 intro q hq
 obtain ⟨p, hp, rfl⟩ := List.mem_map.1 hq
 obtain ⟨h1, h2⟩ := h p hp
 show Rd W 1 (.slice p.A (ints p.b).length p.c) (ints p.b).length ((ints p.b).map (Value.int .u8)) ∧ (ints p.b).length ≤ _
 rw [ints_len, ints_cells]; exact ⟨h1, h2⟩
theorem sameD {ps qs : List PartW} : Wm.Same (ps.map toD) (qs.map toD) ↔ ps.map PartW.val = qs.map PartW.val := by
 unfold Wm.Same
 simp only [List.map_map]
 have key : ∀ p q : PartW, Wm.key (toD p) = Wm.key (toD q) ↔ p.val = q.val := fun p q => by
  show (p.cart, ints p.b) = (q.cart, ints q.b) ↔ (p.cart, p.b) = (q.cart, q.b)
  rw [Prod.mk.injEq, Prod.mk.injEq, ints_inj]
 induction ps generalizing qs with
 | nil => cases qs with
   | nil => simp
   | cons q qs => simp
 | cons p ps ih => cases qs with
   | nil => simp
   | cons q qs =>
     simp only [List.map_cons, List.cons.injEq, Function.comp_apply]
     exact and_congr (key p q) ih
/-- What lies in chunks. -/
theorem BodW.of {W w : World} {L : List As} {ps : List PartW} (s : Sat W w (stars ((ps.map PartW.fr).map (FrD.row 5)) :: L)) (hl : ∀ p ∈ ps, p.b.length ≤ 140737488355328) : BodW w ps := fun p hp => by
 have h := frAll.of s p.fr (List.mem_map.2 ⟨p, hp, rfl⟩)
 exact ⟨h, hl p hp⟩
section
variable (W : World) (k f t lo hi : Int) (A : Option Addr) (c : Nat) (ps : List PartW)
theorem CheckW (hR : Rd W 2 (.slice A ps.length c) ps.length (ps.flatMap encW)) (hlen : ps.length ≤ 140737488355328) :
 Calls Try.prog 16 #[.agg #[.int .i64 k, .int .i64 f, .int .i64 t, .int .i64 lo, .int .i64 hi, .slice A ps.length c]] W fun e w' => ∃ er : Int, e = .returned (.int .i64 er) ∧ ((er = 0 ∧ FormC k f t lo hi (ps.map PartW.cart)) ∨ (er = 1 ∧ ¬ FormC k f t lo hi (ps.map PartW.cart))) ∧ Sat W w' [] := by
 have h := Wm.Check_calls W k f t lo hi A c (ps.map toD) (by rw [lenD, flatD]; exact hR) (by rw [lenD]; exact hlen)
 rw [lenD, formD] at h; exact h
theorem RefCheckW (hR : Rd W 2 (.slice A ps.length c) ps.length (ps.flatMap encW)) (hlen : ps.length ≤ 140737488355328) :
 Calls Try.prog 14 #[.agg #[.int .i64 k, .int .i64 f, .int .i64 t, .int .i64 lo, .int .i64 hi, .slice A ps.length c]] W fun e w' => ∃ er : Int, e = .returned (.int .i64 er) ∧ ((er = 0 ∧ FormC k f t lo hi (ps.map PartW.cart)) ∨ (er = 1 ∧ ¬ FormC k f t lo hi (ps.map PartW.cart))) ∧ Sat W w' [] := by
 have h := Wm.RefCheck_calls W k f t lo hi A c (ps.map toD) (by rw [lenD, flatD]; exact hR) (by rw [lenD]; exact hlen)
 rw [lenD, formD] at h; exact h
theorem EqualBytesW (xs : List UInt8) (A2 : Option Addr) (c2 : Nat) (ys : List UInt8) (hX : Rd W 1 (.slice A xs.length c) xs.length (xs.map bcell)) (hY : Rd W 1 (.slice A2 ys.length c2) ys.length (ys.map bcell)) (hx : xs.length ≤ 140737488355328) (hy : ys.length ≤ 140737488355328) :
 Calls Try.prog 23 #[.slice A xs.length c, .slice A2 ys.length c2] W fun e w' => e = .returned (.bool (decide (xs = ys))) ∧ Sat W w' [] := by
 have h := Wm.EqualBytes_calls W A c (ints xs) A2 c2 (ints ys) (by rw [ints_len, ints_cells]; exact hX) (by rw [ints_len, ints_cells]; exact hY) (by rw [ints_len]; exact hx) (by rw [ints_len]; exact hy)
 rw [ints_len, ints_len] at h
 have e : decide (ints xs = ints ys) = decide (xs = ys) := by rw [Bool.eq_iff_iff, decide_eq_true_eq, decide_eq_true_eq]; exact ints_inj
 rw [e] at h; exact h
theorem EqualW (k2 f2 t2 lo2 hi2 : Int) (A2 : Option Addr) (c2 : Nat) (qs : List PartW) (hR : Rd W 2 (.slice A ps.length c) ps.length (ps.flatMap encW)) (hlen : ps.length ≤ 140737488355328) (hR2 : Rd W 2 (.slice A2 qs.length c2) qs.length (qs.flatMap encW)) (hlen2 : qs.length ≤ 140737488355328) (hB : BodW W ps) (hB2 : BodW W qs) :
 Calls Try.prog 15 #[.agg #[.int .i64 k, .int .i64 f, .int .i64 t, .int .i64 lo, .int .i64 hi, .slice A ps.length c], .agg #[.int .i64 k2, .int .i64 f2, .int .i64 t2, .int .i64 lo2, .int .i64 hi2, .slice A2 qs.length c2]] W fun e w' => ∃ b, e = .returned (.bool b) ∧ (b = true ↔ MailV.mk k f t lo hi (ps.map PartW.val) = MailV.mk k2 f2 t2 lo2 hi2 (qs.map PartW.val)) ∧ Sat W w' [] := by
 have h := Wm.Equal_calls W k f t lo hi A c (ps.map toD) k2 f2 t2 lo2 hi2 A2 c2 (qs.map toD) (by rw [lenD, flatD]; exact hR) (by rw [lenD]; exact hlen) (by rw [lenD, flatD]; exact hR2) (by rw [lenD]; exact hlen2) (bodD hB) (bodD hB2)
 rw [lenD, lenD] at h
 refine h.mono fun e w' ⟨b, h1, h2, h3⟩ => ⟨b, h1, ?_, h3⟩
 rw [h2, sameD, MailV.mk.injEq]
end
/-- How much stands in the parts. -/
def partsZ (ps : List PartW) : Nat := (ps.map fun p => p.b.length + 20).sum
theorem partsZ_len : ∀ ps : List PartW, ps.length ≤ partsZ ps
 | [] => Nat.le_refl _
 | p :: ps => by have := partsZ_len ps; unfold partsZ at *; simp only [List.map_cons, List.sum_cons, List.length_cons]; omega
theorem partsZ_mem : ∀ {ps : List PartW} {p : PartW}, p ∈ ps → p.b.length + 20 ≤ partsZ ps
 | q :: ps, p, h => by
   unfold partsZ
   simp only [List.map_cons, List.sum_cons]
   rcases List.mem_cons.1 h with rfl | h
   ·
    omega
   ·
    have := partsZ_mem h; unfold partsZ at this; omega
theorem goodC_in {cs : List Int} (h : GoodC cs) : ∀ c ∈ cs, 0 ≤ c ∧ c < 64 := fun c hc => by
 obtain ⟨i, hi⟩ := List.getElem?_of_mem hc
 obtain ⟨h1, h2, _⟩ := h i c hi
 exact ⟨h1, h2⟩
theorem cart_in {ps : List PartW} (h : ∀ c ∈ ps.map PartW.cart, 0 ≤ c ∧ c < 64) {p : PartW} (hp : p ∈ ps) : 0 ≤ p.cart ∧ p.cart < 64 := h _ (List.mem_map.2 ⟨p, hp, rfl⟩)
theorem partsB_take {ps : List PartW} (h : ∀ c ∈ ps.map PartW.cart, 0 ≤ c ∧ c < 64) (hz : partsZ ps ≤ 9223372036854775807) (i : Nat) : (partsB ((ps.take i).map PartW.val)).length ≤ partsZ ps := by
 induction ps generalizing i with
 | nil => simp [partsB]
 | cons p ps ih =>
   cases i with
   | zero => simp [partsB]
   | succ i =>
     have hz' : partsZ (p :: ps) = p.b.length + 20 + partsZ ps := by simp [partsZ]
     have := ih (fun c hc => h c (by simp only [List.map_cons, List.mem_cons]; exact .inr hc)) (by omega) i
     have hc := h p.cart (by simp)
     have h1 := numL_nine (n := p.cart.toNat) (by omega)
     have h2 := numL_nine (n := p.b.length) (by omega)
     have e : partsB (((p :: ps).take (i + 1)).map PartW.val) = numL p.cart.toNat ++ (numL p.b.length ++ p.b) ++ partsB ((ps.take i).map PartW.val) := by simp [partsB, partB, PartW.val]
     rw [e]; simp only [List.length_append]; omega
theorem partsB_succ {ps : List PartW} {i : Nat} {p : PartW} (h : ps[i]? = some p) : partsB ((ps.take (i + 1)).map PartW.val) = partsB ((ps.take i).map PartW.val) ++ (numL p.cart.toNat ++ (numL p.b.length ++ p.b)) := by
 rw [List.take_add_one, h]; simp [partsB, partB, PartW.val]
theorem flat_step {l : List Int} {i : Nat} {x : Int} (h : l[i]? = some x) : (((l.map fun x : Int => numL x.toNat).take (i + 1)).flatten) = ((l.map fun x : Int => numL x.toNat).take i).flatten ++ numL x.toNat := by
 rw [List.take_add_one, List.getElem?_map, h]; simp
theorem head_eq {k f t lo hi : Int} {ps : List PartW} : ((([k, f, t, lo, hi, (ps.length : Int)].map fun x : Int => numL x.toNat).take 6).flatten) = headB ⟨k, f, t, lo, hi, ps.map PartW.val⟩ := by simp [headB]
theorem headB_len {k f t lo hi : Int} {ps : List PV} (h : 0 ≤ k ∧ k ≤ 9223372036854775807) (h2 : 0 ≤ f ∧ f ≤ 9223372036854775807) (h3 : 0 ≤ t ∧ t ≤ 9223372036854775807) (h4 : 0 ≤ lo ∧ lo ≤ 9223372036854775807) (h5 : 0 ≤ hi ∧ hi ≤ 9223372036854775807) (h6 : ps.length ≤ 9223372036854775807) : (headB ⟨k, f, t, lo, hi, ps⟩).length ≤ 54 := by
 have a1 := numL_nine (n := k.toNat) (by omega)
 have a2 := numL_nine (n := f.toNat) (by omega)
 have a3 := numL_nine (n := t.toNat) (by omega)
 have a4 := numL_nine (n := lo.toNat) (by omega)
 have a5 := numL_nine (n := hi.toNat) (by omega)
 have a6 := numL_nine h6
 simp only [headB, List.length_append]; omega
end Go.Proofs.Ytfbdcllbgfohdaa.Wk
set_option linter.unusedVariables false
set_option linter.unusedSimpArgs false
namespace Go.Proofs.Ytfbdcllbgfohdaa.Wk
open Go Go.RowKit Go.Proofs.Ytfbdcllbgfohdaa Go.Proofs.Ytfbdcllbgfohdaa.K
/-! what is read -/
theorem gP_is {bs : List UInt8} {m : MailV} (h : gP bs = some m) : ∃ v0 a1 v1 a2 v2 a3 v3 a4 v4 a5 v5 a6 : Nat, rdA bs 0 = (v0, a1, 0) ∧ rdA bs a1 = (v1, a2, 0) ∧ rdA bs a2 = (v2, a3, 0) ∧ rdA bs a3 = (v3, a4, 0) ∧ rdA bs a4 = (v4, a5, 0) ∧ rdA bs a5 = (v5, a6, 0) ∧ prs bs v5 a6 = some (m.ps, bs.length) ∧ m = ⟨v0, v1, v2, v3, v4, m.ps⟩ := by
 unfold gP at h
 obtain ⟨v0, a1, e0, h0⟩ : ∃ v a e, rdA bs 0 = (v, a, e) := ⟨_, _, _, rfl⟩
 simp only [h0] at h
 split at h; · cases h
 rename_i k0; obtain rfl : e0 = 0 := by omega
 obtain ⟨v1, a2, e1, h1⟩ : ∃ v a e, rdA bs a1 = (v, a, e) := ⟨_, _, _, rfl⟩
 simp only [h1] at h
 split at h; · cases h
 rename_i k1; obtain rfl : e1 = 0 := by omega
 obtain ⟨v2, a3, e2, h2⟩ : ∃ v a e, rdA bs a2 = (v, a, e) := ⟨_, _, _, rfl⟩
 simp only [h2] at h
 split at h; · cases h
 rename_i k2; obtain rfl : e2 = 0 := by omega
 obtain ⟨v3, a4, e3, h3⟩ : ∃ v a e, rdA bs a3 = (v, a, e) := ⟨_, _, _, rfl⟩
 simp only [h3] at h
 split at h; · cases h
 rename_i k3; obtain rfl : e3 = 0 := by omega
 obtain ⟨v4, a5, e4, h4⟩ : ∃ v a e, rdA bs a4 = (v, a, e) := ⟨_, _, _, rfl⟩
 simp only [h4] at h
 split at h; · cases h
 rename_i k4; obtain rfl : e4 = 0 := by omega
 obtain ⟨v5, a6, e5, h5⟩ : ∃ v a e, rdA bs a5 = (v, a, e) := ⟨_, _, _, rfl⟩
 simp only [h5] at h
 split at h; · cases h
 rename_i k5; obtain rfl : e5 = 0 := by omega
 obtain ⟨hp, hm⟩ := got_some h
 exact ⟨v0, a1, v1, a2, v2, a3, v3, a4, v4, a5, v5, a6, h0, h1, h2, h3, h4, h5, hp, hm⟩
/-- No mail in form. -/
def NG (bs : List UInt8) : Prop := ∀ m, gP bs = some m → ¬ FormV m
theorem NG.of {bs : List UInt8} (h : gP bs = none) : NG bs := fun m hm => by rw [h] at hm; cases hm
/-- A number that can't be read, or is too great. -/
def bad (bs : List UInt8) (i : Nat) (mo : Int) : Prop := (rdA bs i).2.2 ≠ 0 ∨ ∃ v a : Nat, rdA bs i = (v, a, 0) ∧ mo < (v : Int)
theorem upR_no {bs : List UInt8} {i : Nat} {mo : Int} (h : (upR bs i mo).2.2 ≠ 0) : bad bs i mo := by
 unfold upR at h
 by_cases h1 : (rdA bs i).2.2 = 0
 ·
  rw [if_neg (by omega)] at h
  split at h
  ·
   rename_i h2; exact .inr ⟨(rdA bs i).1, (rdA bs i).2.1, by rw [← h1], h2⟩
  ·
   exact absurd rfl h
 ·
  exact .inl h1
theorem upR_is {bs : List UInt8} {i : Nat} {mo : Int} (h : (upR bs i mo).2.2 = 0) : ∃ v a : Nat, rdA bs i = (v, a, 0) ∧ (v : Int) ≤ mo ∧ upR bs i mo = (v, a, 0) := by
 by_cases h1 : (rdA bs i).2.2 = 0
 ·
  by_cases h2 : mo < ((rdA bs i).1 : Int)
  ·
   rw [upR_wide h1 h2] at h; simp at h
  ·
   refine ⟨(rdA bs i).1, (rdA bs i).2.1, by rw [← h1], by omega, upR_ok h1 (by omega)⟩
 ·
  rw [upR_err h1] at h; exact absurd h h1
theorem cnR_is {bs : List UInt8} {i : Nat} (h : (cnR bs i 2).2.2 = 0) : ∃ v a : Nat, rdA bs i = (v, a, 0) ∧ (v : Int) ≤ ((bs.length : Int) - a) / 2 ∧ cnR bs i 2 = (v, a, 0) := by
 by_cases h1 : (rdA bs i).2.2 = 0
 ·
  by_cases h2 : ((bs.length : Int) - ((rdA bs i).2.1 : Int)) / max 2 1 < ((rdA bs i).1 : Int)
  ·
   rw [cnR_short h1 h2] at h; simp at h
  ·
   refine ⟨(rdA bs i).1, (rdA bs i).2.1, by rw [← h1], by rw [show max (2 : Int) 1 = 2 from rfl] at h2; omega, cnR_ok h1 h2⟩
 ·
  rw [cnR_err h1] at h; exact absurd h h1
theorem cnR_no {bs : List UInt8} {i : Nat} (h : (cnR bs i 2).2.2 ≠ 0) : (rdA bs i).2.2 ≠ 0 ∨ ∃ v a : Nat, rdA bs i = (v, a, 0) ∧ ((bs.length : Int) - a) / 2 < (v : Int) := by
 by_cases h1 : (rdA bs i).2.2 = 0
 ·
  by_cases h2 : ((bs.length : Int) - ((rdA bs i).2.1 : Int)) / max 2 1 < ((rdA bs i).1 : Int)
  ·
   exact .inr ⟨(rdA bs i).1, (rdA bs i).2.1, by rw [← h1], by rw [show max (2 : Int) 1 = 2 from rfl] at h2; omega⟩
  ·
   rw [cnR_ok h1 h2] at h; exact absurd rfl h
 ·
  exact .inl h1
theorem form_le {m : MailV} (h : FormV m) : m.k ≤ 6 ∧ m.f ≤ 16 ∧ m.t ≤ 16 ∧ m.lo ≤ 4611686018427387904 ∧ m.hi ≤ 4611686018427387904 := by
 obtain ⟨h1, h2, h3, h4, h5, h6, h7⟩ := h
 unfold Wm.Itv at h6
 omega
section
variable {bs : List UInt8} {v0 v1 v2 v3 v4 v5 a1 a2 a3 a4 a5 a6 : Nat}
theorem NG0 (hb : bad bs 0 6) : NG bs := fun m hm hF => by
 obtain ⟨w0, b1, w1, b2, w2, b3, w3, b4, w4, b5, w5, b6, g0, g1, g2, g3, g4, g5, hp, he⟩ := gP_is hm
 have hl := form_le hF
 rw [he] at hl
 rcases hb with hb | ⟨v, a, hr, hv⟩
 ·
  rw [g0] at hb; exact hb rfl
 ·
  rw [g0] at hr; injection hr with q1 q2; dsimp only at hl; omega
theorem NG1 (h0 : rdA bs 0 = (v0, a1, 0)) (hb : bad bs a1 16) : NG bs := fun m hm hF => by
 obtain ⟨w0, b1, w1, b2, w2, b3, w3, b4, w4, b5, w5, b6, g0, g1, g2, g3, g4, g5, hp, he⟩ := gP_is hm
 have hl := form_le hF
 rw [he] at hl
 rw [h0] at g0; injection g0 with q1 q2; injection q2 with q2 q3; subst q2
 rcases hb with hb | ⟨v, a, hr, hv⟩
 ·
  rw [g1] at hb; exact hb rfl
 ·
  rw [g1] at hr; injection hr with q1 q2; dsimp only at hl; omega
theorem NG2 (h0 : rdA bs 0 = (v0, a1, 0)) (h1 : rdA bs a1 = (v1, a2, 0)) (hb : bad bs a2 16) : NG bs := fun m hm hF => by
 obtain ⟨w0, b1, w1, b2, w2, b3, w3, b4, w4, b5, w5, b6, g0, g1, g2, g3, g4, g5, hp, he⟩ := gP_is hm
 have hl := form_le hF
 rw [he] at hl
 rw [h0] at g0; injection g0 with q1 q2; injection q2 with q2 q3; subst q2
 rw [h1] at g1; injection g1 with q1 q2; injection q2 with q2 q3; subst q2
 rcases hb with hb | ⟨v, a, hr, hv⟩
 ·
  rw [g2] at hb; exact hb rfl
 ·
  rw [g2] at hr; injection hr with q1 q2; dsimp only at hl; omega
theorem NG3 (h0 : rdA bs 0 = (v0, a1, 0)) (h1 : rdA bs a1 = (v1, a2, 0)) (h2 : rdA bs a2 = (v2, a3, 0)) (hb : bad bs a3 4611686018427387904) : NG bs := fun m hm hF => by
 obtain ⟨w0, b1, w1, b2, w2, b3, w3, b4, w4, b5, w5, b6, g0, g1, g2, g3, g4, g5, hp, he⟩ := gP_is hm
 have hl := form_le hF
 rw [he] at hl
 rw [h0] at g0; injection g0 with q1 q2; injection q2 with q2 q3; subst q2
 rw [h1] at g1; injection g1 with q1 q2; injection q2 with q2 q3; subst q2
 rw [h2] at g2; injection g2 with q1 q2; injection q2 with q2 q3; subst q2
 rcases hb with hb | ⟨v, a, hr, hv⟩
 ·
  rw [g3] at hb; exact hb rfl
 ·
  rw [g3] at hr; injection hr with q1 q2; dsimp only at hl; omega
theorem NG4 (h0 : rdA bs 0 = (v0, a1, 0)) (h1 : rdA bs a1 = (v1, a2, 0)) (h2 : rdA bs a2 = (v2, a3, 0)) (h3 : rdA bs a3 = (v3, a4, 0)) (hb : bad bs a4 4611686018427387904) : NG bs := fun m hm hF => by
 obtain ⟨w0, b1, w1, b2, w2, b3, w3, b4, w4, b5, w5, b6, g0, g1, g2, g3, g4, g5, hp, he⟩ := gP_is hm
 have hl := form_le hF
 rw [he] at hl
 rw [h0] at g0; injection g0 with q1 q2; injection q2 with q2 q3; subst q2
 rw [h1] at g1; injection g1 with q1 q2; injection q2 with q2 q3; subst q2
 rw [h2] at g2; injection g2 with q1 q2; injection q2 with q2 q3; subst q2
 rw [h3] at g3; injection g3 with q1 q2; injection q2 with q2 q3; subst q2
 rcases hb with hb | ⟨v, a, hr, hv⟩
 ·
  rw [g4] at hb; exact hb rfl
 ·
  rw [g4] at hr; injection hr with q1 q2; dsimp only at hl; omega
theorem NG5 (hbl : bs.length ≤ 9223372036854775807) (h0 : rdA bs 0 = (v0, a1, 0)) (h1 : rdA bs a1 = (v1, a2, 0)) (h2 : rdA bs a2 = (v2, a3, 0)) (h3 : rdA bs a3 = (v3, a4, 0)) (h4 : rdA bs a4 = (v4, a5, 0)) (hb : (rdA bs a5).2.2 ≠ 0 ∨ ∃ v a : Nat, rdA bs a5 = (v, a, 0) ∧ ((bs.length : Int) - a) / 2 < (v : Int)) : NG bs := fun m hm hF => by
 obtain ⟨w0, b1, w1, b2, w2, b3, w3, b4, w4, b5, w5, b6, g0, g1, g2, g3, g4, g5, hp, he⟩ := gP_is hm
 rw [h0] at g0; injection g0 with q1 q2; injection q2 with q2 q3; subst q2
 rw [h1] at g1; injection g1 with q1 q2; injection q2 with q2 q3; subst q2
 rw [h2] at g2; injection g2 with q1 q2; injection q2 with q2 q3; subst q2
 rw [h3] at g3; injection g3 with q1 q2; injection q2 with q2 q3; subst q2
 rw [h4] at g4; injection g4 with q1 q2; injection q2 with q2 q3; subst q2
 rcases hb with hb | ⟨v, a, hr, hv⟩
 ·
  rw [g5] at hb; exact hb rfl
 ·
  rw [g5] at hr; injection hr with q1 q2; injection q2 with q2 q3; subst q1 q2
  have := prs_law bs w5 b6 m.ps bs.length (rdA_is g5).2.1 hbl hp
  omega
end
/-- Parts that were read, and those to come. -/
def catP (done : List PV) (r : Option (List PV × Nat)) : Option (List PV × Nat) := r.map fun r => (done ++ r.1, r.2)
theorem catP_nil (r : Option (List PV × Nat)) : catP [] r = r := by cases r <;> rfl
theorem catP_catP (d e : List PV) (r : Option (List PV × Nat)) : catP d (catP e r) = catP (d ++ e) r := by cases r <;> simp [catP]
theorem prs_ok {bs : List UInt8} {n i v a z d : Nat} (h1 : rdA bs i = (v, a, 0)) (h2 : rdA bs a = (z, d, 0)) (h3 : z ≤ bs.length - d) : prs bs (n + 1) i = catP [((v : Int), (bs.drop d).take z)] (prs bs n (d + z)) := by
 rw [prs]; simp only [h1, h2]
 rw [if_neg (by simp), if_neg (by simp), if_neg (by omega)]
 rfl
theorem prs_no1 {bs : List UInt8} {n i : Nat} (h : (rdA bs i).2.2 ≠ 0) : prs bs (n + 1) i = none := by rw [prs, if_pos h]
theorem prs_no2 {bs : List UInt8} {n i v a : Nat} (h1 : rdA bs i = (v, a, 0)) (h : (rdA bs a).2.2 ≠ 0 ∨ ∃ z d : Nat, rdA bs a = (z, d, 0) ∧ bs.length - d < z) : prs bs (n + 1) i = none := by
 rw [prs]; simp only [h1]
 rw [if_neg (by simp)]
 rcases h with h | ⟨z, d, h2, h3⟩
 ·
  rw [if_pos h]
 ·
  simp only [h2]; rw [if_neg (by simp), if_pos h3]
theorem pcR_is {bs : List UInt8} {i : Nat} (h : (pcR bs i 9223372036854775807).2.2 = 0) : ∃ z d : Nat, rdA bs i = (z, d, 0) ∧ z ≤ bs.length - d ∧ pcR bs i 9223372036854775807 = ((bs.drop d).take z, d + z, 0) := by
 by_cases h1 : (upR bs i 9223372036854775807).2.2 = 0
 ·
  obtain ⟨v, a, hr, hv, hu⟩ := upR_is h1
  by_cases h2 : bs.length - (upR bs i 9223372036854775807).2.1 < (upR bs i 9223372036854775807).1
  ·
   rw [pcR_short h1 h2] at h; simp at h
  ·
   have := pcR_ok h1 (show (upR bs i 9223372036854775807).1 ≤ bs.length - (upR bs i 9223372036854775807).2.1 by omega)
   rw [hu] at this h2
   exact ⟨v, a, hr, by dsimp only at h2; omega, this⟩
 ·
  rw [pcR_err h1] at h; exact absurd h h1
theorem pcR_no {bs : List UInt8} {i : Nat} (h : (pcR bs i 9223372036854775807).2.2 ≠ 0) : (rdA bs i).2.2 ≠ 0 ∨ ∃ z d : Nat, rdA bs i = (z, d, 0) ∧ bs.length - d < z := by
 by_cases h1 : (upR bs i 9223372036854775807).2.2 = 0
 ·
  obtain ⟨v, a, hr, hv, hu⟩ := upR_is h1
  by_cases h2 : bs.length - (upR bs i 9223372036854775807).2.1 < (upR bs i 9223372036854775807).1
  ·
   rw [hu] at h2; exact .inr ⟨v, a, hr, h2⟩
  ·
   rw [pcR_ok h1 (by omega)] at h; exact absurd rfl h
 ·
  rcases upR_no h1 with h2 | ⟨v, a, hr, hv⟩
  ·
   exact .inl h2
  ·
   exact absurd (rdA_is hr).2.2.1 (by omega)
section
variable {bs : List UInt8} {v0 v1 v2 v3 v4 v5 a1 a2 a3 a4 a5 a6 : Nat}
theorem NG6 (h0 : rdA bs 0 = (v0, a1, 0)) (h1 : rdA bs a1 = (v1, a2, 0)) (h2 : rdA bs a2 = (v2, a3, 0)) (h3 : rdA bs a3 = (v3, a4, 0)) (h4 : rdA bs a4 = (v4, a5, 0)) (h5 : rdA bs a5 = (v5, a6, 0)) (hp : prs bs v5 a6 = none) : NG bs :=
 NG.of (by rw [gP6 h0 h1 h2 h3 h4 h5, hp]; rfl)
theorem NG7 (h0 : rdA bs 0 = (v0, a1, 0)) (h1 : rdA bs a1 = (v1, a2, 0)) (h2 : rdA bs a2 = (v2, a3, 0)) (h3 : rdA bs a3 = (v3, a4, 0)) (h4 : rdA bs a4 = (v4, a5, 0)) (h5 : rdA bs a5 = (v5, a6, 0)) {done : List PV} {n i : Nat} (hp : prs bs v5 a6 = catP done (prs bs (n + 1) i)) (hb : bad bs i 64) : NG bs := by
 rcases hb with hb | ⟨v, a, hr, hv⟩
 ·
  refine NG6 h0 h1 h2 h3 h4 h5 ?_
  rw [hp, prs_no1 hb]; rfl
 ·
  intro m hm hF
  rw [gP6 h0 h1 h2 h3 h4 h5] at hm
  obtain ⟨hq, hm2⟩ := got_some hm
  rw [hp] at hq
  by_cases hz : (rdA bs a).2.2 = 0
  ·
   obtain ⟨z, d, hs⟩ : ∃ z d, rdA bs a = (z, d, 0) := ⟨_, _, by rw [← hz]⟩
   by_cases hl : z ≤ bs.length - d
   ·
    rw [prs_ok hr hs hl, catP_catP] at hq
    cases hc : prs bs n (d + z) with
    | none => rw [hc] at hq; cases hq
    | some r =>
      rw [hc] at hq
      simp only [catP, Option.map_some, Option.some.injEq, Prod.mk.injEq] at hq
      have hcart : (v : Int) ∈ m.ps.map Prod.fst := by rw [← hq.1]; simp
      have := goodC_in hF.2.2.2.2.2.2 _ hcart
      omega
   ·
    rw [prs_no2 hr (.inr ⟨z, d, hs, by omega⟩)] at hq; cases hq
  ·
   rw [prs_no2 hr (.inl hz)] at hq; cases hq
theorem NG8 (h0 : rdA bs 0 = (v0, a1, 0)) (h1 : rdA bs a1 = (v1, a2, 0)) (h2 : rdA bs a2 = (v2, a3, 0)) (h3 : rdA bs a3 = (v3, a4, 0)) (h4 : rdA bs a4 = (v4, a5, 0)) (h5 : rdA bs a5 = (v5, a6, 0)) {done : List PV} {n i v a : Nat} (hp : prs bs v5 a6 = catP done (prs bs (n + 1) i)) (hr : rdA bs i = (v, a, 0)) (hb : (rdA bs a).2.2 ≠ 0 ∨ ∃ z d : Nat, rdA bs a = (z, d, 0) ∧ bs.length - d < z) : NG bs :=
 NG6 h0 h1 h2 h3 h4 h5 (by rw [hp, prs_no2 hr hb]; rfl)
end
theorem prs_step {bs : List UInt8} {v5 a6 n i v a z d : Nat} {done : List PV} (hp : prs bs v5 a6 = catP done (prs bs (n + 1) i)) (h1 : rdA bs i = (v, a, 0)) (h2 : rdA bs a = (z, d, 0)) (h3 : z ≤ bs.length - d) : prs bs v5 a6 = catP (done ++ [((v : Int), (bs.drop d).take z)]) (prs bs n (d + z)) := by
 rw [hp, prs_ok h1 h2 h3, catP_catP]
theorem prs_over {bs : List UInt8} {v5 a6 i : Nat} {done : List PV} (hp : prs bs v5 a6 = catP done (prs bs 0 i)) : prs bs v5 a6 = some (done, i) := by rw [hp]; simp [prs, catP]
theorem partW_snoc (ps : List PartW) (p : PartW) : ps.flatMap encW ++ encW p = (ps ++ [p]).flatMap encW := by simp
def SB (ps : List PartW) : As := stars ((ps.map PartW.fr).map (FrD.row 5))
theorem SB_snoc {W w : World} {L : List As} {ps : List PartW} {p : PartW} (s : Sat W w (row 5 1 (.slice p.A p.b.length p.c) p.b.length (p.b.map bcell) :: SB ps :: L)) : Sat W w (SB (ps ++ [p]) :: L) := by
 unfold SB at *
 have h := s.starsSnoc
 rw [List.map_append, List.map_append]
 exact h
theorem SB_nil {W w : World} {L : List As} (s : Sat W w L) : Sat W w (SB [] :: L) := s.starsNil
def getO (bs : List UInt8) (ok : Bool) (err at_ : Int) (m : MailV) : Prop :=
 (ok = true ∧ err = 0 ∧ ∃ i : Nat, at_ = i ∧ i ≤ bs.length ∧ gP bs = if i = bs.length then some m else none) ∨ (ok = false ∧ err ≠ 0 ∧ NG bs)
theorem got_of {bs : List UInt8} {v0 v1 v2 v3 v4 v5 a1 a2 a3 a4 a5 a6 i : Nat} {ps : List PV} (h0 : rdA bs 0 = (v0, a1, 0)) (h1 : rdA bs a1 = (v1, a2, 0)) (h2 : rdA bs a2 = (v2, a3, 0)) (h3 : rdA bs a3 = (v3, a4, 0)) (h4 : rdA bs a4 = (v4, a5, 0)) (h5 : rdA bs a5 = (v5, a6, 0)) (hp : prs bs v5 a6 = catP ps (prs bs 0 i)) : gP bs = if i = bs.length then some ⟨v0, v1, v2, v3, v4, ps⟩ else none := by
 rw [gP6 h0 h1 h2 h3 h4 h5, prs_over hp]; rfl
end Go.Proofs.Ytfbdcllbgfohdaa.Wk
set_option linter.unusedVariables false
set_option linter.unusedSimpArgs false
namespace Go.Proofs.Ytfbdcllbgfohdaa.Wk
open Go Go.RowKit Go.Proofs.Ytfbdcllbgfohdaa Go.Proofs.Ytfbdcllbgfohdaa.K
def restOf (c : Option Code) : Code := match c with | some (.seq _ b) => b | _ => .skip
set_option maxRecDepth 100000 in
set_option maxHeartbeats 1000000 in
theorem read1_nil (W w : World) (L : List As) (r q p : Nat) (A : Option Addr) (n c : Nat) (at_ err e0 : Int) (live : Bool)  (hn : n ≤ 140737488355328) (a : Act) (hA : Ag a 59 [(0, .pointer (some ⟨q, 0, none⟩)), (1, .pointer (some ⟨p, 0, none⟩)), (2, .nilIface)]) (hS : Sat W w (pto r (.cells #[.slice A n c, .int .i64 at_, .bool live, .int .i64 err] 88) :: pto q (.cells #[.pointer (some ⟨r, 0, none⟩)] 75) :: pto p (.cells #[.int .i64 e0] 25) :: L)) : (restOf Try.f63.body).wp Try.prog (bodyPost Try.prog Try.f63 fun e w' => e = .returned (.tuple #[]) ∧ Sat W w' (pto r (.cells #[.slice none 0 0, .int .i64 at_, .bool false, .int .i64 err] 88) :: pto q (.cells #[.pointer (some ⟨r, 0, none⟩)] 75) :: pto p (.cells #[.int .i64 (if err ≠ 0 then err else if at_ < n then 52 else e0)] 25) :: L)) a w := by
 refine wp_seq_k fun k1 hk1 => ?_
 refine qEnter (fun w' => Sat _ w' _) (by kernel_rfl) (by kernel_rfl) hS.drew ?_
 refine K.q1 hA rfl rfl rfl (fun w hS => (r_load (hA.ev rfl) T.fl75 (by exact (hS.p 1).cell rfl))) ?_; clear hA a; intro a hA
 refine K.q1 hA rfl rfl rfl (fun w hS => (r_nil (hA.ev rfl))) ?_; clear hA a; intro a hA
 refine K.q1 hA rfl rfl rfl (fun w hS => (r_field (hA.ev rfl) T.fo88_1)) ?_; clear hA a; intro a hA
 refine K.q1 hA rfl rfl rfl (fun w hS => (r_load (hA.ev rfl) T.fl3 (by exact hS.cell rfl))) ?_; clear hA a; intro a hA
 refine K.q1 hA rfl rfl rfl (fun w hS => (r_load (hA.ev rfl) T.fl75 (by exact (hS.p 1).cell rfl))) ?_; clear hA a; intro a hA
 refine K.q1 hA rfl rfl rfl (fun w hS => (r_nil (hA.ev rfl))) ?_; clear hA a; intro a hA
 refine K.q1 hA rfl rfl rfl (fun w hS => (r_field (hA.ev rfl) T.fo88_0)) ?_; clear hA a; intro a hA
 refine K.q1 hA rfl rfl rfl (fun w hS => (r_load (hA.ev rfl) T.fl34 (by exact hS.cell rfl))) ?_; clear hA a; intro a hA
 refine K.q1 hA rfl rfl rfl (fun w hS => (r_lens (hA.ev rfl) T.un34)) ?_; clear hA a; intro a hA
 refine K.q1s hA rfl rfl rfl (fun w hS => (r_lss (hA.ev rfl) (hA.ev rfl))) ?_ ?_
 ·
  clear hA a; intro h16 a hA
  all_goals
   skip
   refine K.q1 hA rfl rfl rfl (fun w hS => (r_assign (hA.ev rfl))) ?_; clear hA a; intro a hA
   refine wpQuiet_nil ?_
   clear hS; intro w hS
   refine hk1 _ _ ?_
   clear hk1 k1
   replace hA := hA.keep (.cons (i := 0) rfl (.cons (i := 1) rfl (.cons (i := 2) rfl (.cons (i := 3) rfl .nil))))
   refine wp_seq_k fun k2 hk2 => ?_
   refine wp_region_lit ?_
   refine go1 hA rfl rfl rfl (r_load (hA.ev rfl) T.fl75 (by exact (hS.p 1).cell rfl)) ?_; clear hA a; intro a hA
   refine go1 hA rfl rfl rfl (r_load (hA.ev rfl) T.fl75 (by exact (hS.p 1).cell rfl)) ?_; clear hA a; intro a hA
   refine go1 hA rfl rfl rfl (r_nil (hA.ev rfl)) ?_; clear hA a; intro a hA
   refine go1 hA rfl rfl rfl (r_field (hA.ev rfl) T.fo88_2) ?_; clear hA a; intro a hA
   refine goW hA rfl rfl T.fl4 T.sz4 rfl hS rfl ?_
   clear hS; intro w hS
   refine go1 hA rfl rfl rfl (r_nil (hA.ev rfl)) ?_; clear hA a; intro a hA
   refine go1 hA rfl rfl rfl (r_field (hA.ev rfl) T.fo88_0) ?_; clear hA a; intro a hA
   refine goW hA rfl rfl T.fl34 T.sz34 rfl hS rfl ?_
   clear hS; intro w hS
   refine wpList_nil ?_
   refine hk2 _ _ ?_
   clear hk2 k2
   replace hA := hA.keep (.cons (i := 0) rfl (.cons (i := 1) rfl (.cons (i := 2) rfl (.cons (i := 3) rfl .nil))))
   refine wp_seq_k fun k3 hk3 => ?_
   refine wp_seq_k fun k4 hk4 => ?_
   refine wp_region_lit ?_
   refine go1 hA rfl rfl rfl (r_move (hA.ev rfl)) ?_; clear hA a; intro a hA
   refine go1 hA rfl rfl rfl (r_taNil (hA.ev rfl) T.ci90 (zero_run T.zv90)) ?_; clear hA a; intro a hA
   refine go1 hA rfl rfl rfl (r_move (hA.ev rfl)) ?_; clear hA a; intro a hA
   refine go1 hA rfl rfl rfl (r_ext (hA.ev rfl) rfl) ?_; clear hA a; intro a hA
   refine go1 hA rfl rfl rfl (r_ext (hA.ev rfl) rfl) ?_; clear hA a; intro a hA
   refine goN hA rfl T.zv90 hS ?_
   clear hA a hS; intro b4 w hS a hA
   refine goWS2 (vs := [_]) (cs' := [_]) hA rfl rfl T.sz90 (by simp [Value.oneCell']) hS rfl rfl ?_
   clear hS; intro w hS
   refine go1 hA rfl rfl rfl (r_assign (hA.ev rfl)) ?_; clear hA a; intro a hA
   refine wpList_nil ?_
   refine hk4 _ _ ?_
   clear hk4 k4
   replace hA := hA.keep (.cons (i := 0) rfl (.cons (i := 1) rfl (.cons (i := 2) rfl (.cons (i := 3) rfl (.cons (i := 4) rfl (.cons (i := 5) rfl .nil))))))
   refine wp_seq_k fun k5 hk5 => ?_
   refine wp_region_lit ?_
   refine go1 hA rfl rfl rfl (r_move (hA.ev rfl)) ?_; clear hA a; intro a hA
   refine go1 hA rfl rfl rfl (r_move (hA.ev rfl)) ?_; clear hA a; intro a hA
   refine goS hA (wanted_no hA rfl rfl rfl rfl) rfl rfl ?_; clear hA a; intro a hA
   refine goS hA (wanted_no hA rfl rfl rfl rfl) rfl rfl ?_; clear hA a; intro a hA
   refine goS hA (wanted_no hA rfl rfl rfl rfl) rfl rfl ?_; clear hA a; intro a hA
   refine goS hA (wanted_no hA rfl rfl rfl rfl) rfl rfl ?_; clear hA a; intro a hA
   refine go1 hA rfl rfl rfl (r_pick_f (hA.ev rfl) (hA.ev rfl)) ?_; clear hA a; intro a hA
   refine go1 hA rfl rfl rfl (r_move (hA.ev rfl)) ?_; clear hA a; intro a hA
   refine goS hA (wanted_no hA rfl rfl rfl rfl) rfl rfl ?_; clear hA a; intro a hA
   refine goS hA (wanted_no hA rfl rfl rfl rfl) rfl rfl ?_; clear hA a; intro a hA
   refine goS hA (wanted_no hA rfl rfl rfl rfl) rfl rfl ?_; clear hA a; intro a hA
   refine goS hA (wanted_no hA rfl rfl rfl rfl) rfl rfl ?_; clear hA a; intro a hA
   refine goS hA (wanted_no hA rfl rfl rfl rfl) rfl rfl ?_; clear hA a; intro a hA
   refine go1 hA rfl rfl rfl (r_pick_f (hA.ev rfl) (hA.ev rfl)) ?_; clear hA a; intro a hA
   refine wpList_nil ?_
   refine hk5 _ _ ?_
   clear hk5 k5
   replace hA := hA.keep (.cons (i := 0) rfl (.cons (i := 1) rfl (.cons (i := 2) rfl (.cons (i := 3) rfl (.cons (i := 4) rfl (.cons (i := 41) rfl .nil))))))
   refine wp_cond_false (hA.ev rfl) ?_
   refine wp_skip ?_
   refine hk3 _ _ ?_
   clear hk3 k3
   replace hA := hA.keep (.cons (i := 0) rfl (.cons (i := 1) rfl (.cons (i := 2) rfl (.cons (i := 3) rfl .nil))))
   refine wp_block ?_
   refine wp_seq_k fun k6 hk6 => ?_
   refine wp_region_lit ?_
   refine go1 hA rfl rfl rfl (r_load (hA.ev rfl) T.fl75 (by exact (hS.p 2).cell rfl)) ?_; clear hA a; intro a hA
   refine go1 hA rfl rfl rfl (r_nil (hA.ev rfl)) ?_; clear hA a; intro a hA
   refine go1 hA rfl rfl rfl (r_field (hA.ev rfl) T.fo88_3) ?_; clear hA a; intro a hA
   refine go1 hA rfl rfl rfl (r_load (hA.ev rfl) T.fl25 (by exact (hS.p 1).cell rfl)) ?_; clear hA a; intro a hA
   refine go1s hA rfl rfl rfl (r_neq (hA.ev rfl) (hA.ev rfl)) ?_ ?_
   ·
    clear hA a; intro h49 a hA
    all_goals
     skip
     refine go1 hA rfl rfl rfl (r_assign (hA.ev rfl)) ?_; clear hA a; intro a hA
     refine wpList_nil ?_
     refine hk6 _ _ ?_
     clear hk6 k6
     replace hA := hA.keep (.cons (i := 0) rfl (.cons (i := 1) rfl (.cons (i := 2) rfl (.cons (i := 3) rfl (.cons (i := 44) rfl .nil)))))
     refine wp_cond_true (hA.ev rfl) ?_
     refine wp_region_lit ?_
     refine go1 hA rfl rfl rfl (r_load (hA.ev rfl) T.fl75 (by exact (hS.p 2).cell rfl)) ?_; clear hA a; intro a hA
     refine go1 hA rfl rfl rfl (r_nil (hA.ev rfl)) ?_; clear hA a; intro a hA
     refine go1 hA rfl rfl rfl (r_field (hA.ev rfl) T.fo88_3) ?_; clear hA a; intro a hA
     refine go1 hA rfl rfl rfl (r_load (hA.ev rfl) T.fl25 (by exact (hS.p 1).cell rfl)) ?_; clear hA a; intro a hA
     refine goW hA rfl rfl T.fl25 T.sz25 rfl (hS.p 3) rfl ?_
     clear hS; intro w hS
     refine wpList_nil ?_
     refine block_normal ?_
     refine end_n (e := .ret) ?_
     refine end0 hA rfl  ?_
     first
      | (rw [if_pos h49]; exact ⟨rfl, (((hS.p 3).p 3).p 3).drop⟩)
      | (rw [if_neg h49, if_pos h16]; exact ⟨rfl, (((hS.p 3).p 3).p 3).drop⟩)
      | (rw [if_neg h49, if_neg h16]; exact ⟨rfl, hS.drop⟩)
      | (rw [if_neg h49]; exact ⟨rfl, (((hS.p 3).p 3).p 3).drop⟩)
   ·
    clear hA a; intro h49 a hA
    all_goals
     skip
     refine go1 hA rfl rfl rfl (r_assign (hA.ev rfl)) ?_; clear hA a; intro a hA
     refine wpList_nil ?_
     refine hk6 _ _ ?_
     clear hk6 k6
     replace hA := hA.keep (.cons (i := 0) rfl (.cons (i := 1) rfl (.cons (i := 2) rfl (.cons (i := 3) rfl (.cons (i := 44) rfl .nil)))))
     refine wp_cond_false (hA.ev rfl) ?_
     refine wp_seq_k fun k7 hk7 => ?_
     refine wp_region_lit ?_
     refine go1 hA rfl rfl rfl (r_move (hA.ev rfl)) ?_; clear hA a; intro a hA
     refine go1 hA rfl rfl rfl (r_neqI0 (hA.ev rfl) rfl (show isIface Try.prog 20 = true by kernel_rfl)) ?_; clear hA a; intro a hA
     refine go1 hA rfl rfl rfl (r_assign (hA.ev rfl)) ?_; clear hA a; intro a hA
     refine wpList_nil ?_
     refine hk7 _ _ ?_
     clear hk7 k7
     replace hA := hA.keep (.cons (i := 1) rfl (.cons (i := 3) rfl (.cons (i := 54) rfl .nil)))
     refine wp_cond_false (hA.ev rfl) ?_
     refine wp_seq_k fun k8 hk8 => ?_
     refine wp_region_lit ?_
     refine go1 hA rfl rfl rfl (r_move (hA.ev rfl)) ?_; clear hA a; intro a hA
     refine go1 hA rfl rfl rfl (r_assign (hA.ev rfl)) ?_; clear hA a; intro a hA
     refine wpList_nil ?_
     refine hk8 _ _ ?_
     clear hk8 k8
     replace hA := hA.keep (.cons (i := 1) rfl (.cons (i := 57) rfl .nil))
     refine wp_cond_true (hA.ev rfl) ?_
     refine wp_region_lit ?_
     refine goW hA rfl rfl T.fl25 T.sz25 rfl (hS.p 3) rfl ?_
     clear hS; intro w hS
     refine wpList_nil ?_
     refine block_normal ?_
     refine end_n (e := .ret) ?_
     refine end0 hA rfl  ?_
     first
      | (rw [if_pos h49]; exact ⟨rfl, (((hS.p 3).p 3).p 3).drop⟩)
      | (rw [if_neg h49, if_pos h16]; exact ⟨rfl, (((hS.p 3).p 3).p 3).drop⟩)
      | (rw [if_neg h49, if_neg h16]; exact ⟨rfl, hS.drop⟩)
      | (rw [if_neg h49]; exact ⟨rfl, (((hS.p 3).p 3).p 3).drop⟩)
 ·
  clear hA a; intro h16 a hA
  all_goals
   skip
   refine K.q1 hA rfl rfl rfl (fun w hS => (r_assign (hA.ev rfl))) ?_; clear hA a; intro a hA
   refine wpQuiet_nil ?_
   clear hS; intro w hS
   refine hk1 _ _ ?_
   clear hk1 k1
   replace hA := hA.keep (.cons (i := 0) rfl (.cons (i := 1) rfl (.cons (i := 2) rfl (.cons (i := 3) rfl .nil))))
   refine wp_seq_k fun k9 hk9 => ?_
   refine wp_region_lit ?_
   refine go1 hA rfl rfl rfl (r_load (hA.ev rfl) T.fl75 (by exact (hS.p 1).cell rfl)) ?_; clear hA a; intro a hA
   refine go1 hA rfl rfl rfl (r_load (hA.ev rfl) T.fl75 (by exact (hS.p 1).cell rfl)) ?_; clear hA a; intro a hA
   refine go1 hA rfl rfl rfl (r_nil (hA.ev rfl)) ?_; clear hA a; intro a hA
   refine go1 hA rfl rfl rfl (r_field (hA.ev rfl) T.fo88_2) ?_; clear hA a; intro a hA
   refine goW hA rfl rfl T.fl4 T.sz4 rfl hS rfl ?_
   clear hS; intro w hS
   refine go1 hA rfl rfl rfl (r_nil (hA.ev rfl)) ?_; clear hA a; intro a hA
   refine go1 hA rfl rfl rfl (r_field (hA.ev rfl) T.fo88_0) ?_; clear hA a; intro a hA
   refine goW hA rfl rfl T.fl34 T.sz34 rfl hS rfl ?_
   clear hS; intro w hS
   refine wpList_nil ?_
   refine hk9 _ _ ?_
   clear hk9 k9
   replace hA := hA.keep (.cons (i := 0) rfl (.cons (i := 1) rfl (.cons (i := 2) rfl (.cons (i := 3) rfl .nil))))
   refine wp_seq_k fun k10 hk10 => ?_
   refine wp_seq_k fun k11 hk11 => ?_
   refine wp_region_lit ?_
   refine go1 hA rfl rfl rfl (r_move (hA.ev rfl)) ?_; clear hA a; intro a hA
   refine go1 hA rfl rfl rfl (r_taNil (hA.ev rfl) T.ci90 (zero_run T.zv90)) ?_; clear hA a; intro a hA
   refine go1 hA rfl rfl rfl (r_move (hA.ev rfl)) ?_; clear hA a; intro a hA
   refine go1 hA rfl rfl rfl (r_ext (hA.ev rfl) rfl) ?_; clear hA a; intro a hA
   refine go1 hA rfl rfl rfl (r_ext (hA.ev rfl) rfl) ?_; clear hA a; intro a hA
   refine goN hA rfl T.zv90 hS ?_
   clear hA a hS; intro b4 w hS a hA
   refine goWS2 (vs := [_]) (cs' := [_]) hA rfl rfl T.sz90 (by simp [Value.oneCell']) hS rfl rfl ?_
   clear hS; intro w hS
   refine go1 hA rfl rfl rfl (r_assign (hA.ev rfl)) ?_; clear hA a; intro a hA
   refine wpList_nil ?_
   refine hk11 _ _ ?_
   clear hk11 k11
   replace hA := hA.keep (.cons (i := 0) rfl (.cons (i := 1) rfl (.cons (i := 2) rfl (.cons (i := 3) rfl (.cons (i := 4) rfl (.cons (i := 5) rfl .nil))))))
   refine wp_seq_k fun k12 hk12 => ?_
   refine wp_region_lit ?_
   refine go1 hA rfl rfl rfl (r_move (hA.ev rfl)) ?_; clear hA a; intro a hA
   refine go1 hA rfl rfl rfl (r_move (hA.ev rfl)) ?_; clear hA a; intro a hA
   refine goS hA (wanted_no hA rfl rfl rfl rfl) rfl rfl ?_; clear hA a; intro a hA
   refine goS hA (wanted_no hA rfl rfl rfl rfl) rfl rfl ?_; clear hA a; intro a hA
   refine goS hA (wanted_no hA rfl rfl rfl rfl) rfl rfl ?_; clear hA a; intro a hA
   refine goS hA (wanted_no hA rfl rfl rfl rfl) rfl rfl ?_; clear hA a; intro a hA
   refine go1 hA rfl rfl rfl (r_pick_f (hA.ev rfl) (hA.ev rfl)) ?_; clear hA a; intro a hA
   refine go1 hA rfl rfl rfl (r_move (hA.ev rfl)) ?_; clear hA a; intro a hA
   refine goS hA (wanted_no hA rfl rfl rfl rfl) rfl rfl ?_; clear hA a; intro a hA
   refine goS hA (wanted_no hA rfl rfl rfl rfl) rfl rfl ?_; clear hA a; intro a hA
   refine goS hA (wanted_no hA rfl rfl rfl rfl) rfl rfl ?_; clear hA a; intro a hA
   refine goS hA (wanted_no hA rfl rfl rfl rfl) rfl rfl ?_; clear hA a; intro a hA
   refine goS hA (wanted_no hA rfl rfl rfl rfl) rfl rfl ?_; clear hA a; intro a hA
   refine go1 hA rfl rfl rfl (r_pick_f (hA.ev rfl) (hA.ev rfl)) ?_; clear hA a; intro a hA
   refine wpList_nil ?_
   refine hk12 _ _ ?_
   clear hk12 k12
   replace hA := hA.keep (.cons (i := 0) rfl (.cons (i := 1) rfl (.cons (i := 2) rfl (.cons (i := 3) rfl (.cons (i := 4) rfl (.cons (i := 41) rfl .nil))))))
   refine wp_cond_false (hA.ev rfl) ?_
   refine wp_skip ?_
   refine hk10 _ _ ?_
   clear hk10 k10
   replace hA := hA.keep (.cons (i := 0) rfl (.cons (i := 1) rfl (.cons (i := 2) rfl (.cons (i := 3) rfl .nil))))
   refine wp_block ?_
   refine wp_seq_k fun k13 hk13 => ?_
   refine wp_region_lit ?_
   refine go1 hA rfl rfl rfl (r_load (hA.ev rfl) T.fl75 (by exact (hS.p 2).cell rfl)) ?_; clear hA a; intro a hA
   refine go1 hA rfl rfl rfl (r_nil (hA.ev rfl)) ?_; clear hA a; intro a hA
   refine go1 hA rfl rfl rfl (r_field (hA.ev rfl) T.fo88_3) ?_; clear hA a; intro a hA
   refine go1 hA rfl rfl rfl (r_load (hA.ev rfl) T.fl25 (by exact (hS.p 1).cell rfl)) ?_; clear hA a; intro a hA
   refine go1s hA rfl rfl rfl (r_neq (hA.ev rfl) (hA.ev rfl)) ?_ ?_
   ·
    clear hA a; intro h49 a hA
    all_goals
     skip
     refine go1 hA rfl rfl rfl (r_assign (hA.ev rfl)) ?_; clear hA a; intro a hA
     refine wpList_nil ?_
     refine hk13 _ _ ?_
     clear hk13 k13
     replace hA := hA.keep (.cons (i := 0) rfl (.cons (i := 1) rfl (.cons (i := 2) rfl (.cons (i := 3) rfl (.cons (i := 44) rfl .nil)))))
     refine wp_cond_true (hA.ev rfl) ?_
     refine wp_region_lit ?_
     refine go1 hA rfl rfl rfl (r_load (hA.ev rfl) T.fl75 (by exact (hS.p 2).cell rfl)) ?_; clear hA a; intro a hA
     refine go1 hA rfl rfl rfl (r_nil (hA.ev rfl)) ?_; clear hA a; intro a hA
     refine go1 hA rfl rfl rfl (r_field (hA.ev rfl) T.fo88_3) ?_; clear hA a; intro a hA
     refine go1 hA rfl rfl rfl (r_load (hA.ev rfl) T.fl25 (by exact (hS.p 1).cell rfl)) ?_; clear hA a; intro a hA
     refine goW hA rfl rfl T.fl25 T.sz25 rfl (hS.p 3) rfl ?_
     clear hS; intro w hS
     refine wpList_nil ?_
     refine block_normal ?_
     refine end_n (e := .ret) ?_
     refine end0 hA rfl  ?_
     first
      | (rw [if_pos h49]; exact ⟨rfl, (((hS.p 3).p 3).p 3).drop⟩)
      | (rw [if_neg h49, if_pos h16]; exact ⟨rfl, (((hS.p 3).p 3).p 3).drop⟩)
      | (rw [if_neg h49, if_neg h16]; exact ⟨rfl, hS.drop⟩)
      | (rw [if_neg h49]; exact ⟨rfl, (((hS.p 3).p 3).p 3).drop⟩)
   ·
    clear hA a; intro h49 a hA
    all_goals
     skip
     refine go1 hA rfl rfl rfl (r_assign (hA.ev rfl)) ?_; clear hA a; intro a hA
     refine wpList_nil ?_
     refine hk13 _ _ ?_
     clear hk13 k13
     replace hA := hA.keep (.cons (i := 0) rfl (.cons (i := 1) rfl (.cons (i := 2) rfl (.cons (i := 3) rfl (.cons (i := 44) rfl .nil)))))
     refine wp_cond_false (hA.ev rfl) ?_
     refine wp_seq_k fun k14 hk14 => ?_
     refine wp_region_lit ?_
     refine go1 hA rfl rfl rfl (r_move (hA.ev rfl)) ?_; clear hA a; intro a hA
     refine go1 hA rfl rfl rfl (r_neqI0 (hA.ev rfl) rfl (show isIface Try.prog 20 = true by kernel_rfl)) ?_; clear hA a; intro a hA
     refine go1 hA rfl rfl rfl (r_assign (hA.ev rfl)) ?_; clear hA a; intro a hA
     refine wpList_nil ?_
     refine hk14 _ _ ?_
     clear hk14 k14
     replace hA := hA.keep (.cons (i := 1) rfl (.cons (i := 3) rfl (.cons (i := 54) rfl .nil)))
     refine wp_cond_false (hA.ev rfl) ?_
     refine wp_seq_k fun k15 hk15 => ?_
     refine wp_region_lit ?_
     refine go1 hA rfl rfl rfl (r_move (hA.ev rfl)) ?_; clear hA a; intro a hA
     refine go1 hA rfl rfl rfl (r_assign (hA.ev rfl)) ?_; clear hA a; intro a hA
     refine wpList_nil ?_
     refine hk15 _ _ ?_
     clear hk15 k15
     replace hA := hA.keep (.cons (i := 1) rfl (.cons (i := 57) rfl .nil))
     refine wp_cond_false (hA.ev rfl) ?_
     refine wp_skip ?_
     refine block_normal ?_
     refine end_n (e := .ret) ?_
     refine end0 hA rfl  ?_
     first
      | (rw [if_pos h49]; exact ⟨rfl, (((hS.p 3).p 3).p 3).drop⟩)
      | (rw [if_neg h49, if_pos h16]; exact ⟨rfl, (((hS.p 3).p 3).p 3).drop⟩)
      | (rw [if_neg h49, if_neg h16]; exact ⟨rfl, hS.drop⟩)
      | (rw [if_neg h49]; exact ⟨rfl, (((hS.p 3).p 3).p 3).drop⟩)
set_option maxRecDepth 100000 in
set_option maxHeartbeats 1000000 in
theorem read1_own (W w : World) (L : List As) (r q p : Nat) (A : Option Addr) (n c : Nat) (at_ err e0 : Int) (live : Bool)  (hn : n ≤ 140737488355328) (a : Act) (hA : Ag a 59 [(0, .pointer (some ⟨q, 0, none⟩)), (1, .pointer (some ⟨p, 0, none⟩)), (2, .iface 90 (.agg #[.pointer (some ⟨r, 0, none⟩)]))]) (hS : Sat W w (pto r (.cells #[.slice A n c, .int .i64 at_, .bool live, .int .i64 err] 88) :: pto q (.cells #[.pointer (some ⟨r, 0, none⟩)] 75) :: pto p (.cells #[.int .i64 e0] 25) :: L)) : (restOf Try.f63.body).wp Try.prog (bodyPost Try.prog Try.f63 fun e w' => e = .returned (.tuple #[]) ∧ Sat W w' (pto r (.cells #[.slice none 0 0, .int .i64 at_, .bool false, .int .i64 err] 88) :: pto q (.cells #[.pointer (some ⟨r, 0, none⟩)] 75) :: pto p (.cells #[.int .i64 (if err ≠ 0 then err else 8)] 25) :: L)) a w := by
 refine wp_seq_k fun k1 hk1 => ?_
 refine qEnter (fun w' => Sat _ w' _) (by kernel_rfl) (by kernel_rfl) hS.drew ?_
 refine K.q1 hA rfl rfl rfl (fun w hS => (r_load (hA.ev rfl) T.fl75 (by exact (hS.p 1).cell rfl))) ?_; clear hA a; intro a hA
 refine K.q1 hA rfl rfl rfl (fun w hS => (r_nil (hA.ev rfl))) ?_; clear hA a; intro a hA
 refine K.q1 hA rfl rfl rfl (fun w hS => (r_field (hA.ev rfl) T.fo88_1)) ?_; clear hA a; intro a hA
 refine K.q1 hA rfl rfl rfl (fun w hS => (r_load (hA.ev rfl) T.fl3 (by exact hS.cell rfl))) ?_; clear hA a; intro a hA
 refine K.q1 hA rfl rfl rfl (fun w hS => (r_load (hA.ev rfl) T.fl75 (by exact (hS.p 1).cell rfl))) ?_; clear hA a; intro a hA
 refine K.q1 hA rfl rfl rfl (fun w hS => (r_nil (hA.ev rfl))) ?_; clear hA a; intro a hA
 refine K.q1 hA rfl rfl rfl (fun w hS => (r_field (hA.ev rfl) T.fo88_0)) ?_; clear hA a; intro a hA
 refine K.q1 hA rfl rfl rfl (fun w hS => (r_load (hA.ev rfl) T.fl34 (by exact hS.cell rfl))) ?_; clear hA a; intro a hA
 refine K.q1 hA rfl rfl rfl (fun w hS => (r_lens (hA.ev rfl) T.un34)) ?_; clear hA a; intro a hA
 refine K.q1s hA rfl rfl rfl (fun w hS => (r_lss (hA.ev rfl) (hA.ev rfl))) ?_ ?_
 ·
  clear hA a; intro h16 a hA
  all_goals
   skip
   refine K.q1 hA rfl rfl rfl (fun w hS => (r_assign (hA.ev rfl))) ?_; clear hA a; intro a hA
   refine wpQuiet_nil ?_
   clear hS; intro w hS
   refine hk1 _ _ ?_
   clear hk1 k1
   replace hA := hA.keep (.cons (i := 0) rfl (.cons (i := 1) rfl (.cons (i := 2) rfl (.cons (i := 3) rfl .nil))))
   refine wp_seq_k fun k2 hk2 => ?_
   refine wp_region_lit ?_
   refine go1 hA rfl rfl rfl (r_load (hA.ev rfl) T.fl75 (by exact (hS.p 1).cell rfl)) ?_; clear hA a; intro a hA
   refine go1 hA rfl rfl rfl (r_load (hA.ev rfl) T.fl75 (by exact (hS.p 1).cell rfl)) ?_; clear hA a; intro a hA
   refine go1 hA rfl rfl rfl (r_nil (hA.ev rfl)) ?_; clear hA a; intro a hA
   refine go1 hA rfl rfl rfl (r_field (hA.ev rfl) T.fo88_2) ?_; clear hA a; intro a hA
   refine goW hA rfl rfl T.fl4 T.sz4 rfl hS rfl ?_
   clear hS; intro w hS
   refine go1 hA rfl rfl rfl (r_nil (hA.ev rfl)) ?_; clear hA a; intro a hA
   refine go1 hA rfl rfl rfl (r_field (hA.ev rfl) T.fo88_0) ?_; clear hA a; intro a hA
   refine goW hA rfl rfl T.fl34 T.sz34 rfl hS rfl ?_
   clear hS; intro w hS
   refine wpList_nil ?_
   refine hk2 _ _ ?_
   clear hk2 k2
   replace hA := hA.keep (.cons (i := 0) rfl (.cons (i := 1) rfl (.cons (i := 2) rfl (.cons (i := 3) rfl .nil))))
   refine wp_seq_k fun k3 hk3 => ?_
   refine wp_seq_k fun k4 hk4 => ?_
   refine wp_region_lit ?_
   refine go1 hA rfl rfl rfl (r_move (hA.ev rfl)) ?_; clear hA a; intro a hA
   refine go1 hA rfl rfl rfl (r_taHit (hA.ev rfl) T.ci90) ?_; clear hA a; intro a hA
   refine go1 hA rfl rfl rfl (r_move (hA.ev rfl)) ?_; clear hA a; intro a hA
   refine go1 hA rfl rfl rfl (r_ext (hA.ev rfl) rfl) ?_; clear hA a; intro a hA
   refine go1 hA rfl rfl rfl (r_ext (hA.ev rfl) rfl) ?_; clear hA a; intro a hA
   refine goN hA rfl T.zv90 hS ?_
   clear hA a hS; intro b4 w hS a hA
   refine goWS2 (vs := [_]) (cs' := [_]) hA rfl rfl T.sz90 (by simp [Value.oneCell']) hS rfl rfl ?_
   clear hS; intro w hS
   refine go1 hA rfl rfl rfl (r_assign (hA.ev rfl)) ?_; clear hA a; intro a hA
   refine wpList_nil ?_
   refine hk4 _ _ ?_
   clear hk4 k4
   replace hA := hA.keep (.cons (i := 0) rfl (.cons (i := 1) rfl (.cons (i := 2) rfl (.cons (i := 3) rfl (.cons (i := 4) rfl (.cons (i := 5) rfl .nil))))))
   refine wp_seq_k fun k5 hk5 => ?_
   refine wp_region_lit ?_
   refine go1 hA rfl rfl rfl (r_move (hA.ev rfl)) ?_; clear hA a; intro a hA
   refine go1 hA rfl rfl rfl (r_move (hA.ev rfl)) ?_; clear hA a; intro a hA
   refine go1y hA (wanted_yes hA rfl rfl rfl) rfl rfl (r_field (hA.ev rfl) T.fo90_0) ?_; clear hA a; intro a hA
   refine go1y hA (wanted_yes hA rfl rfl rfl) rfl rfl (r_load (hA.ev rfl) T.fl75 (by exact hS.cell rfl)) ?_; clear hA a; intro a hA
   refine go1y hA (wanted_yes hA rfl rfl rfl) rfl rfl (r_load (hA.ev rfl) T.fl75 (by exact (hS.p 2).cell rfl)) ?_; clear hA a; intro a hA
   refine go1y hA (wanted_yes hA rfl rfl rfl) rfl rfl (r_nepS (hA.ev rfl) (hA.ev rfl) T.un75 (k := 3) (show (Try.prog.info? 88).map (·.size) = some 4 by kernel_rfl)) ?_; clear hA a; intro a hA
   refine go1 hA rfl rfl rfl (r_pick_t (hA.ev rfl) (hA.ev rfl)) ?_; clear hA a; intro a hA
   refine go1 hA rfl rfl rfl (r_move (hA.ev rfl)) ?_; clear hA a; intro a hA
   refine goS hA (wanted_no hA rfl rfl rfl rfl) rfl rfl ?_; clear hA a; intro a hA
   refine goS hA (wanted_no hA rfl rfl rfl rfl) rfl rfl ?_; clear hA a; intro a hA
   refine goS hA (wanted_no hA rfl rfl rfl rfl) rfl rfl ?_; clear hA a; intro a hA
   refine goS hA (wanted_no hA rfl rfl rfl rfl) rfl rfl ?_; clear hA a; intro a hA
   refine goS hA (wanted_no hA rfl rfl rfl rfl) rfl rfl ?_; clear hA a; intro a hA
   refine go1 hA rfl rfl rfl (r_pick_f (hA.ev rfl) (hA.ev rfl)) ?_; clear hA a; intro a hA
   refine wpList_nil ?_
   refine hk5 _ _ ?_
   clear hk5 k5
   replace hA := hA.keep (.cons (i := 0) rfl (.cons (i := 1) rfl (.cons (i := 2) rfl (.cons (i := 3) rfl (.cons (i := 4) rfl (.cons (i := 41) rfl .nil))))))
   refine wp_cond_false (hA.ev rfl) ?_
   refine wp_skip ?_
   refine hk3 _ _ ?_
   clear hk3 k3
   replace hA := hA.keep (.cons (i := 0) rfl (.cons (i := 1) rfl (.cons (i := 2) rfl (.cons (i := 3) rfl .nil))))
   refine wp_block ?_
   refine wp_seq_k fun k6 hk6 => ?_
   refine wp_region_lit ?_
   refine go1 hA rfl rfl rfl (r_load (hA.ev rfl) T.fl75 (by exact (hS.p 2).cell rfl)) ?_; clear hA a; intro a hA
   refine go1 hA rfl rfl rfl (r_nil (hA.ev rfl)) ?_; clear hA a; intro a hA
   refine go1 hA rfl rfl rfl (r_field (hA.ev rfl) T.fo88_3) ?_; clear hA a; intro a hA
   refine go1 hA rfl rfl rfl (r_load (hA.ev rfl) T.fl25 (by exact (hS.p 1).cell rfl)) ?_; clear hA a; intro a hA
   refine go1s hA rfl rfl rfl (r_neq (hA.ev rfl) (hA.ev rfl)) ?_ ?_
   ·
    clear hA a; intro h49 a hA
    all_goals
     skip
     refine go1 hA rfl rfl rfl (r_assign (hA.ev rfl)) ?_; clear hA a; intro a hA
     refine wpList_nil ?_
     refine hk6 _ _ ?_
     clear hk6 k6
     replace hA := hA.keep (.cons (i := 0) rfl (.cons (i := 1) rfl (.cons (i := 2) rfl (.cons (i := 3) rfl (.cons (i := 44) rfl .nil)))))
     refine wp_cond_true (hA.ev rfl) ?_
     refine wp_region_lit ?_
     refine go1 hA rfl rfl rfl (r_load (hA.ev rfl) T.fl75 (by exact (hS.p 2).cell rfl)) ?_; clear hA a; intro a hA
     refine go1 hA rfl rfl rfl (r_nil (hA.ev rfl)) ?_; clear hA a; intro a hA
     refine go1 hA rfl rfl rfl (r_field (hA.ev rfl) T.fo88_3) ?_; clear hA a; intro a hA
     refine go1 hA rfl rfl rfl (r_load (hA.ev rfl) T.fl25 (by exact (hS.p 1).cell rfl)) ?_; clear hA a; intro a hA
     refine goW hA rfl rfl T.fl25 T.sz25 rfl (hS.p 3) rfl ?_
     clear hS; intro w hS
     refine wpList_nil ?_
     refine block_normal ?_
     refine end_n (e := .ret) ?_
     refine end0 hA rfl  ?_
     first
      | (rw [if_pos h49]; exact ⟨rfl, (((hS.p 3).p 3).p 3).drop⟩)
      | (rw [if_neg h49, if_pos h16]; exact ⟨rfl, (((hS.p 3).p 3).p 3).drop⟩)
      | (rw [if_neg h49, if_neg h16]; exact ⟨rfl, hS.drop⟩)
      | (rw [if_neg h49]; exact ⟨rfl, (((hS.p 3).p 3).p 3).drop⟩)
   ·
    clear hA a; intro h49 a hA
    all_goals
     skip
     refine go1 hA rfl rfl rfl (r_assign (hA.ev rfl)) ?_; clear hA a; intro a hA
     refine wpList_nil ?_
     refine hk6 _ _ ?_
     clear hk6 k6
     replace hA := hA.keep (.cons (i := 0) rfl (.cons (i := 1) rfl (.cons (i := 2) rfl (.cons (i := 3) rfl (.cons (i := 44) rfl .nil)))))
     refine wp_cond_false (hA.ev rfl) ?_
     refine wp_seq_k fun k7 hk7 => ?_
     refine wp_region_lit ?_
     refine go1 hA rfl rfl rfl (r_move (hA.ev rfl)) ?_; clear hA a; intro a hA
     refine go1 hA rfl rfl rfl (r_neqI (hA.ev rfl) (hA.ev rfl) (show isIface Try.prog 20 = true by kernel_rfl)) ?_; clear hA a; intro a hA
     refine go1 hA rfl rfl rfl (r_assign (hA.ev rfl)) ?_; clear hA a; intro a hA
     refine wpList_nil ?_
     refine hk7 _ _ ?_
     clear hk7 k7
     replace hA := hA.keep (.cons (i := 1) rfl (.cons (i := 3) rfl (.cons (i := 54) rfl .nil)))
     refine wp_cond_true (hA.ev rfl) ?_
     refine wp_region_lit ?_
     refine goW hA rfl rfl T.fl25 T.sz25 rfl (hS.p 3) rfl ?_
     clear hS; intro w hS
     refine wpList_nil ?_
     refine block_normal ?_
     refine end_n (e := .ret) ?_
     refine end0 hA rfl  ?_
     first
      | (rw [if_pos h49]; exact ⟨rfl, (((hS.p 3).p 3).p 3).drop⟩)
      | (rw [if_neg h49, if_pos h16]; exact ⟨rfl, (((hS.p 3).p 3).p 3).drop⟩)
      | (rw [if_neg h49, if_neg h16]; exact ⟨rfl, hS.drop⟩)
      | (rw [if_neg h49]; exact ⟨rfl, (((hS.p 3).p 3).p 3).drop⟩)
 ·
  clear hA a; intro h16 a hA
  all_goals
   skip
   refine K.q1 hA rfl rfl rfl (fun w hS => (r_assign (hA.ev rfl))) ?_; clear hA a; intro a hA
   refine wpQuiet_nil ?_
   clear hS; intro w hS
   refine hk1 _ _ ?_
   clear hk1 k1
   replace hA := hA.keep (.cons (i := 0) rfl (.cons (i := 1) rfl (.cons (i := 2) rfl (.cons (i := 3) rfl .nil))))
   refine wp_seq_k fun k8 hk8 => ?_
   refine wp_region_lit ?_
   refine go1 hA rfl rfl rfl (r_load (hA.ev rfl) T.fl75 (by exact (hS.p 1).cell rfl)) ?_; clear hA a; intro a hA
   refine go1 hA rfl rfl rfl (r_load (hA.ev rfl) T.fl75 (by exact (hS.p 1).cell rfl)) ?_; clear hA a; intro a hA
   refine go1 hA rfl rfl rfl (r_nil (hA.ev rfl)) ?_; clear hA a; intro a hA
   refine go1 hA rfl rfl rfl (r_field (hA.ev rfl) T.fo88_2) ?_; clear hA a; intro a hA
   refine goW hA rfl rfl T.fl4 T.sz4 rfl hS rfl ?_
   clear hS; intro w hS
   refine go1 hA rfl rfl rfl (r_nil (hA.ev rfl)) ?_; clear hA a; intro a hA
   refine go1 hA rfl rfl rfl (r_field (hA.ev rfl) T.fo88_0) ?_; clear hA a; intro a hA
   refine goW hA rfl rfl T.fl34 T.sz34 rfl hS rfl ?_
   clear hS; intro w hS
   refine wpList_nil ?_
   refine hk8 _ _ ?_
   clear hk8 k8
   replace hA := hA.keep (.cons (i := 0) rfl (.cons (i := 1) rfl (.cons (i := 2) rfl (.cons (i := 3) rfl .nil))))
   refine wp_seq_k fun k9 hk9 => ?_
   refine wp_seq_k fun k10 hk10 => ?_
   refine wp_region_lit ?_
   refine go1 hA rfl rfl rfl (r_move (hA.ev rfl)) ?_; clear hA a; intro a hA
   refine go1 hA rfl rfl rfl (r_taHit (hA.ev rfl) T.ci90) ?_; clear hA a; intro a hA
   refine go1 hA rfl rfl rfl (r_move (hA.ev rfl)) ?_; clear hA a; intro a hA
   refine go1 hA rfl rfl rfl (r_ext (hA.ev rfl) rfl) ?_; clear hA a; intro a hA
   refine go1 hA rfl rfl rfl (r_ext (hA.ev rfl) rfl) ?_; clear hA a; intro a hA
   refine goN hA rfl T.zv90 hS ?_
   clear hA a hS; intro b4 w hS a hA
   refine goWS2 (vs := [_]) (cs' := [_]) hA rfl rfl T.sz90 (by simp [Value.oneCell']) hS rfl rfl ?_
   clear hS; intro w hS
   refine go1 hA rfl rfl rfl (r_assign (hA.ev rfl)) ?_; clear hA a; intro a hA
   refine wpList_nil ?_
   refine hk10 _ _ ?_
   clear hk10 k10
   replace hA := hA.keep (.cons (i := 0) rfl (.cons (i := 1) rfl (.cons (i := 2) rfl (.cons (i := 3) rfl (.cons (i := 4) rfl (.cons (i := 5) rfl .nil))))))
   refine wp_seq_k fun k11 hk11 => ?_
   refine wp_region_lit ?_
   refine go1 hA rfl rfl rfl (r_move (hA.ev rfl)) ?_; clear hA a; intro a hA
   refine go1 hA rfl rfl rfl (r_move (hA.ev rfl)) ?_; clear hA a; intro a hA
   refine go1y hA (wanted_yes hA rfl rfl rfl) rfl rfl (r_field (hA.ev rfl) T.fo90_0) ?_; clear hA a; intro a hA
   refine go1y hA (wanted_yes hA rfl rfl rfl) rfl rfl (r_load (hA.ev rfl) T.fl75 (by exact hS.cell rfl)) ?_; clear hA a; intro a hA
   refine go1y hA (wanted_yes hA rfl rfl rfl) rfl rfl (r_load (hA.ev rfl) T.fl75 (by exact (hS.p 2).cell rfl)) ?_; clear hA a; intro a hA
   refine go1y hA (wanted_yes hA rfl rfl rfl) rfl rfl (r_nepS (hA.ev rfl) (hA.ev rfl) T.un75 (k := 3) (show (Try.prog.info? 88).map (·.size) = some 4 by kernel_rfl)) ?_; clear hA a; intro a hA
   refine go1 hA rfl rfl rfl (r_pick_t (hA.ev rfl) (hA.ev rfl)) ?_; clear hA a; intro a hA
   refine go1 hA rfl rfl rfl (r_move (hA.ev rfl)) ?_; clear hA a; intro a hA
   refine goS hA (wanted_no hA rfl rfl rfl rfl) rfl rfl ?_; clear hA a; intro a hA
   refine goS hA (wanted_no hA rfl rfl rfl rfl) rfl rfl ?_; clear hA a; intro a hA
   refine goS hA (wanted_no hA rfl rfl rfl rfl) rfl rfl ?_; clear hA a; intro a hA
   refine goS hA (wanted_no hA rfl rfl rfl rfl) rfl rfl ?_; clear hA a; intro a hA
   refine goS hA (wanted_no hA rfl rfl rfl rfl) rfl rfl ?_; clear hA a; intro a hA
   refine go1 hA rfl rfl rfl (r_pick_f (hA.ev rfl) (hA.ev rfl)) ?_; clear hA a; intro a hA
   refine wpList_nil ?_
   refine hk11 _ _ ?_
   clear hk11 k11
   replace hA := hA.keep (.cons (i := 0) rfl (.cons (i := 1) rfl (.cons (i := 2) rfl (.cons (i := 3) rfl (.cons (i := 4) rfl (.cons (i := 41) rfl .nil))))))
   refine wp_cond_false (hA.ev rfl) ?_
   refine wp_skip ?_
   refine hk9 _ _ ?_
   clear hk9 k9
   replace hA := hA.keep (.cons (i := 0) rfl (.cons (i := 1) rfl (.cons (i := 2) rfl (.cons (i := 3) rfl .nil))))
   refine wp_block ?_
   refine wp_seq_k fun k12 hk12 => ?_
   refine wp_region_lit ?_
   refine go1 hA rfl rfl rfl (r_load (hA.ev rfl) T.fl75 (by exact (hS.p 2).cell rfl)) ?_; clear hA a; intro a hA
   refine go1 hA rfl rfl rfl (r_nil (hA.ev rfl)) ?_; clear hA a; intro a hA
   refine go1 hA rfl rfl rfl (r_field (hA.ev rfl) T.fo88_3) ?_; clear hA a; intro a hA
   refine go1 hA rfl rfl rfl (r_load (hA.ev rfl) T.fl25 (by exact (hS.p 1).cell rfl)) ?_; clear hA a; intro a hA
   refine go1s hA rfl rfl rfl (r_neq (hA.ev rfl) (hA.ev rfl)) ?_ ?_
   ·
    clear hA a; intro h49 a hA
    all_goals
     skip
     refine go1 hA rfl rfl rfl (r_assign (hA.ev rfl)) ?_; clear hA a; intro a hA
     refine wpList_nil ?_
     refine hk12 _ _ ?_
     clear hk12 k12
     replace hA := hA.keep (.cons (i := 0) rfl (.cons (i := 1) rfl (.cons (i := 2) rfl (.cons (i := 3) rfl (.cons (i := 44) rfl .nil)))))
     refine wp_cond_true (hA.ev rfl) ?_
     refine wp_region_lit ?_
     refine go1 hA rfl rfl rfl (r_load (hA.ev rfl) T.fl75 (by exact (hS.p 2).cell rfl)) ?_; clear hA a; intro a hA
     refine go1 hA rfl rfl rfl (r_nil (hA.ev rfl)) ?_; clear hA a; intro a hA
     refine go1 hA rfl rfl rfl (r_field (hA.ev rfl) T.fo88_3) ?_; clear hA a; intro a hA
     refine go1 hA rfl rfl rfl (r_load (hA.ev rfl) T.fl25 (by exact (hS.p 1).cell rfl)) ?_; clear hA a; intro a hA
     refine goW hA rfl rfl T.fl25 T.sz25 rfl (hS.p 3) rfl ?_
     clear hS; intro w hS
     refine wpList_nil ?_
     refine block_normal ?_
     refine end_n (e := .ret) ?_
     refine end0 hA rfl  ?_
     first
      | (rw [if_pos h49]; exact ⟨rfl, (((hS.p 3).p 3).p 3).drop⟩)
      | (rw [if_neg h49, if_pos h16]; exact ⟨rfl, (((hS.p 3).p 3).p 3).drop⟩)
      | (rw [if_neg h49, if_neg h16]; exact ⟨rfl, hS.drop⟩)
      | (rw [if_neg h49]; exact ⟨rfl, (((hS.p 3).p 3).p 3).drop⟩)
   ·
    clear hA a; intro h49 a hA
    all_goals
     skip
     refine go1 hA rfl rfl rfl (r_assign (hA.ev rfl)) ?_; clear hA a; intro a hA
     refine wpList_nil ?_
     refine hk12 _ _ ?_
     clear hk12 k12
     replace hA := hA.keep (.cons (i := 0) rfl (.cons (i := 1) rfl (.cons (i := 2) rfl (.cons (i := 3) rfl (.cons (i := 44) rfl .nil)))))
     refine wp_cond_false (hA.ev rfl) ?_
     refine wp_seq_k fun k13 hk13 => ?_
     refine wp_region_lit ?_
     refine go1 hA rfl rfl rfl (r_move (hA.ev rfl)) ?_; clear hA a; intro a hA
     refine go1 hA rfl rfl rfl (r_neqI (hA.ev rfl) (hA.ev rfl) (show isIface Try.prog 20 = true by kernel_rfl)) ?_; clear hA a; intro a hA
     refine go1 hA rfl rfl rfl (r_assign (hA.ev rfl)) ?_; clear hA a; intro a hA
     refine wpList_nil ?_
     refine hk13 _ _ ?_
     clear hk13 k13
     replace hA := hA.keep (.cons (i := 1) rfl (.cons (i := 3) rfl (.cons (i := 54) rfl .nil)))
     refine wp_cond_true (hA.ev rfl) ?_
     refine wp_region_lit ?_
     refine goW hA rfl rfl T.fl25 T.sz25 rfl (hS.p 3) rfl ?_
     clear hS; intro w hS
     refine wpList_nil ?_
     refine block_normal ?_
     refine end_n (e := .ret) ?_
     refine end0 hA rfl  ?_
     first
      | (rw [if_pos h49]; exact ⟨rfl, (((hS.p 3).p 3).p 3).drop⟩)
      | (rw [if_neg h49, if_pos h16]; exact ⟨rfl, (((hS.p 3).p 3).p 3).drop⟩)
      | (rw [if_neg h49, if_neg h16]; exact ⟨rfl, hS.drop⟩)
      | (rw [if_neg h49]; exact ⟨rfl, (((hS.p 3).p 3).p 3).drop⟩)
set_option maxRecDepth 100000 in
set_option maxHeartbeats 1000000 in
theorem read1_other (W w : World) (L : List As) (r q p : Nat) (A : Option Addr) (n c : Nat) (at_ err e0 : Int) (live : Bool) (tx : TypeId) (vx : Value) (hne : tx ≠ 90) (hn : n ≤ 140737488355328) (a : Act) (hA : Ag a 59 [(0, .pointer (some ⟨q, 0, none⟩)), (1, .pointer (some ⟨p, 0, none⟩)), (2, .iface tx vx)]) (hS : Sat W w (pto r (.cells #[.slice A n c, .int .i64 at_, .bool live, .int .i64 err] 88) :: pto q (.cells #[.pointer (some ⟨r, 0, none⟩)] 75) :: pto p (.cells #[.int .i64 e0] 25) :: L)) : (restOf Try.f63.body).wp Try.prog (bodyPost Try.prog Try.f63 fun e w' => e = .returned (.tuple #[]) ∧ Sat W w' (pto r (.cells #[.slice none 0 0, .int .i64 at_, .bool false, .int .i64 err] 88) :: pto q (.cells #[.pointer (some ⟨r, 0, none⟩)] 75) :: pto p (.cells #[.int .i64 (if err ≠ 0 then err else 8)] 25) :: L)) a w := by
 refine wp_seq_k fun k1 hk1 => ?_
 refine qEnter (fun w' => Sat _ w' _) (by kernel_rfl) (by kernel_rfl) hS.drew ?_
 refine K.q1 hA rfl rfl rfl (fun w hS => (r_load (hA.ev rfl) T.fl75 (by exact (hS.p 1).cell rfl))) ?_; clear hA a; intro a hA
 refine K.q1 hA rfl rfl rfl (fun w hS => (r_nil (hA.ev rfl))) ?_; clear hA a; intro a hA
 refine K.q1 hA rfl rfl rfl (fun w hS => (r_field (hA.ev rfl) T.fo88_1)) ?_; clear hA a; intro a hA
 refine K.q1 hA rfl rfl rfl (fun w hS => (r_load (hA.ev rfl) T.fl3 (by exact hS.cell rfl))) ?_; clear hA a; intro a hA
 refine K.q1 hA rfl rfl rfl (fun w hS => (r_load (hA.ev rfl) T.fl75 (by exact (hS.p 1).cell rfl))) ?_; clear hA a; intro a hA
 refine K.q1 hA rfl rfl rfl (fun w hS => (r_nil (hA.ev rfl))) ?_; clear hA a; intro a hA
 refine K.q1 hA rfl rfl rfl (fun w hS => (r_field (hA.ev rfl) T.fo88_0)) ?_; clear hA a; intro a hA
 refine K.q1 hA rfl rfl rfl (fun w hS => (r_load (hA.ev rfl) T.fl34 (by exact hS.cell rfl))) ?_; clear hA a; intro a hA
 refine K.q1 hA rfl rfl rfl (fun w hS => (r_lens (hA.ev rfl) T.un34)) ?_; clear hA a; intro a hA
 refine K.q1s hA rfl rfl rfl (fun w hS => (r_lss (hA.ev rfl) (hA.ev rfl))) ?_ ?_
 ·
  clear hA a; intro h16 a hA
  all_goals
   skip
   refine K.q1 hA rfl rfl rfl (fun w hS => (r_assign (hA.ev rfl))) ?_; clear hA a; intro a hA
   refine wpQuiet_nil ?_
   clear hS; intro w hS
   refine hk1 _ _ ?_
   clear hk1 k1
   replace hA := hA.keep (.cons (i := 0) rfl (.cons (i := 1) rfl (.cons (i := 2) rfl (.cons (i := 3) rfl .nil))))
   refine wp_seq_k fun k2 hk2 => ?_
   refine wp_region_lit ?_
   refine go1 hA rfl rfl rfl (r_load (hA.ev rfl) T.fl75 (by exact (hS.p 1).cell rfl)) ?_; clear hA a; intro a hA
   refine go1 hA rfl rfl rfl (r_load (hA.ev rfl) T.fl75 (by exact (hS.p 1).cell rfl)) ?_; clear hA a; intro a hA
   refine go1 hA rfl rfl rfl (r_nil (hA.ev rfl)) ?_; clear hA a; intro a hA
   refine go1 hA rfl rfl rfl (r_field (hA.ev rfl) T.fo88_2) ?_; clear hA a; intro a hA
   refine goW hA rfl rfl T.fl4 T.sz4 rfl hS rfl ?_
   clear hS; intro w hS
   refine go1 hA rfl rfl rfl (r_nil (hA.ev rfl)) ?_; clear hA a; intro a hA
   refine go1 hA rfl rfl rfl (r_field (hA.ev rfl) T.fo88_0) ?_; clear hA a; intro a hA
   refine goW hA rfl rfl T.fl34 T.sz34 rfl hS rfl ?_
   clear hS; intro w hS
   refine wpList_nil ?_
   refine hk2 _ _ ?_
   clear hk2 k2
   replace hA := hA.keep (.cons (i := 0) rfl (.cons (i := 1) rfl (.cons (i := 2) rfl (.cons (i := 3) rfl .nil))))
   refine wp_seq_k fun k3 hk3 => ?_
   refine wp_seq_k fun k4 hk4 => ?_
   refine wp_region_lit ?_
   refine go1 hA rfl rfl rfl (r_move (hA.ev rfl)) ?_; clear hA a; intro a hA
   refine go1 hA rfl rfl rfl (r_taMiss (hA.ev rfl) hne T.ci90 (zero_run T.zv90)) ?_; clear hA a; intro a hA
   refine go1 hA rfl rfl rfl (r_move (hA.ev rfl)) ?_; clear hA a; intro a hA
   refine go1 hA rfl rfl rfl (r_ext (hA.ev rfl) rfl) ?_; clear hA a; intro a hA
   refine go1 hA rfl rfl rfl (r_ext (hA.ev rfl) rfl) ?_; clear hA a; intro a hA
   refine goN hA rfl T.zv90 hS ?_
   clear hA a hS; intro b4 w hS a hA
   refine goWS2 (vs := [_]) (cs' := [_]) hA rfl rfl T.sz90 (by simp [Value.oneCell']) hS rfl rfl ?_
   clear hS; intro w hS
   refine go1 hA rfl rfl rfl (r_assign (hA.ev rfl)) ?_; clear hA a; intro a hA
   refine wpList_nil ?_
   refine hk4 _ _ ?_
   clear hk4 k4
   replace hA := hA.keep (.cons (i := 0) rfl (.cons (i := 1) rfl (.cons (i := 2) rfl (.cons (i := 3) rfl (.cons (i := 4) rfl (.cons (i := 5) rfl .nil))))))
   refine wp_seq_k fun k5 hk5 => ?_
   refine wp_region_lit ?_
   refine go1 hA rfl rfl rfl (r_move (hA.ev rfl)) ?_; clear hA a; intro a hA
   refine go1 hA rfl rfl rfl (r_move (hA.ev rfl)) ?_; clear hA a; intro a hA
   refine goS hA (wanted_no hA rfl rfl rfl rfl) rfl rfl ?_; clear hA a; intro a hA
   refine goS hA (wanted_no hA rfl rfl rfl rfl) rfl rfl ?_; clear hA a; intro a hA
   refine goS hA (wanted_no hA rfl rfl rfl rfl) rfl rfl ?_; clear hA a; intro a hA
   refine goS hA (wanted_no hA rfl rfl rfl rfl) rfl rfl ?_; clear hA a; intro a hA
   refine go1 hA rfl rfl rfl (r_pick_f (hA.ev rfl) (hA.ev rfl)) ?_; clear hA a; intro a hA
   refine go1 hA rfl rfl rfl (r_move (hA.ev rfl)) ?_; clear hA a; intro a hA
   refine goS hA (wanted_no hA rfl rfl rfl rfl) rfl rfl ?_; clear hA a; intro a hA
   refine goS hA (wanted_no hA rfl rfl rfl rfl) rfl rfl ?_; clear hA a; intro a hA
   refine goS hA (wanted_no hA rfl rfl rfl rfl) rfl rfl ?_; clear hA a; intro a hA
   refine goS hA (wanted_no hA rfl rfl rfl rfl) rfl rfl ?_; clear hA a; intro a hA
   refine goS hA (wanted_no hA rfl rfl rfl rfl) rfl rfl ?_; clear hA a; intro a hA
   refine go1 hA rfl rfl rfl (r_pick_f (hA.ev rfl) (hA.ev rfl)) ?_; clear hA a; intro a hA
   refine wpList_nil ?_
   refine hk5 _ _ ?_
   clear hk5 k5
   replace hA := hA.keep (.cons (i := 0) rfl (.cons (i := 1) rfl (.cons (i := 2) rfl (.cons (i := 3) rfl (.cons (i := 4) rfl (.cons (i := 41) rfl .nil))))))
   refine wp_cond_false (hA.ev rfl) ?_
   refine wp_skip ?_
   refine hk3 _ _ ?_
   clear hk3 k3
   replace hA := hA.keep (.cons (i := 0) rfl (.cons (i := 1) rfl (.cons (i := 2) rfl (.cons (i := 3) rfl .nil))))
   refine wp_block ?_
   refine wp_seq_k fun k6 hk6 => ?_
   refine wp_region_lit ?_
   refine go1 hA rfl rfl rfl (r_load (hA.ev rfl) T.fl75 (by exact (hS.p 2).cell rfl)) ?_; clear hA a; intro a hA
   refine go1 hA rfl rfl rfl (r_nil (hA.ev rfl)) ?_; clear hA a; intro a hA
   refine go1 hA rfl rfl rfl (r_field (hA.ev rfl) T.fo88_3) ?_; clear hA a; intro a hA
   refine go1 hA rfl rfl rfl (r_load (hA.ev rfl) T.fl25 (by exact (hS.p 1).cell rfl)) ?_; clear hA a; intro a hA
   refine go1s hA rfl rfl rfl (r_neq (hA.ev rfl) (hA.ev rfl)) ?_ ?_
   ·
    clear hA a; intro h49 a hA
    all_goals
     skip
     refine go1 hA rfl rfl rfl (r_assign (hA.ev rfl)) ?_; clear hA a; intro a hA
     refine wpList_nil ?_
     refine hk6 _ _ ?_
     clear hk6 k6
     replace hA := hA.keep (.cons (i := 0) rfl (.cons (i := 1) rfl (.cons (i := 2) rfl (.cons (i := 3) rfl (.cons (i := 44) rfl .nil)))))
     refine wp_cond_true (hA.ev rfl) ?_
     refine wp_region_lit ?_
     refine go1 hA rfl rfl rfl (r_load (hA.ev rfl) T.fl75 (by exact (hS.p 2).cell rfl)) ?_; clear hA a; intro a hA
     refine go1 hA rfl rfl rfl (r_nil (hA.ev rfl)) ?_; clear hA a; intro a hA
     refine go1 hA rfl rfl rfl (r_field (hA.ev rfl) T.fo88_3) ?_; clear hA a; intro a hA
     refine go1 hA rfl rfl rfl (r_load (hA.ev rfl) T.fl25 (by exact (hS.p 1).cell rfl)) ?_; clear hA a; intro a hA
     refine goW hA rfl rfl T.fl25 T.sz25 rfl (hS.p 3) rfl ?_
     clear hS; intro w hS
     refine wpList_nil ?_
     refine block_normal ?_
     refine end_n (e := .ret) ?_
     refine end0 hA rfl  ?_
     first
      | (rw [if_pos h49]; exact ⟨rfl, (((hS.p 3).p 3).p 3).drop⟩)
      | (rw [if_neg h49, if_pos h16]; exact ⟨rfl, (((hS.p 3).p 3).p 3).drop⟩)
      | (rw [if_neg h49, if_neg h16]; exact ⟨rfl, hS.drop⟩)
      | (rw [if_neg h49]; exact ⟨rfl, (((hS.p 3).p 3).p 3).drop⟩)
   ·
    clear hA a; intro h49 a hA
    all_goals
     skip
     refine go1 hA rfl rfl rfl (r_assign (hA.ev rfl)) ?_; clear hA a; intro a hA
     refine wpList_nil ?_
     refine hk6 _ _ ?_
     clear hk6 k6
     replace hA := hA.keep (.cons (i := 0) rfl (.cons (i := 1) rfl (.cons (i := 2) rfl (.cons (i := 3) rfl (.cons (i := 44) rfl .nil)))))
     refine wp_cond_false (hA.ev rfl) ?_
     refine wp_seq_k fun k7 hk7 => ?_
     refine wp_region_lit ?_
     refine go1 hA rfl rfl rfl (r_move (hA.ev rfl)) ?_; clear hA a; intro a hA
     refine go1 hA rfl rfl rfl (r_neqI (hA.ev rfl) (hA.ev rfl) (show isIface Try.prog 20 = true by kernel_rfl)) ?_; clear hA a; intro a hA
     refine go1 hA rfl rfl rfl (r_assign (hA.ev rfl)) ?_; clear hA a; intro a hA
     refine wpList_nil ?_
     refine hk7 _ _ ?_
     clear hk7 k7
     replace hA := hA.keep (.cons (i := 1) rfl (.cons (i := 3) rfl (.cons (i := 54) rfl .nil)))
     refine wp_cond_true (hA.ev rfl) ?_
     refine wp_region_lit ?_
     refine goW hA rfl rfl T.fl25 T.sz25 rfl (hS.p 3) rfl ?_
     clear hS; intro w hS
     refine wpList_nil ?_
     refine block_normal ?_
     refine end_n (e := .ret) ?_
     refine end0 hA rfl  ?_
     first
      | (rw [if_pos h49]; exact ⟨rfl, (((hS.p 3).p 3).p 3).drop⟩)
      | (rw [if_neg h49, if_pos h16]; exact ⟨rfl, (((hS.p 3).p 3).p 3).drop⟩)
      | (rw [if_neg h49, if_neg h16]; exact ⟨rfl, hS.drop⟩)
      | (rw [if_neg h49]; exact ⟨rfl, (((hS.p 3).p 3).p 3).drop⟩)
 ·
  clear hA a; intro h16 a hA
  all_goals
   skip
   refine K.q1 hA rfl rfl rfl (fun w hS => (r_assign (hA.ev rfl))) ?_; clear hA a; intro a hA
   refine wpQuiet_nil ?_
   clear hS; intro w hS
   refine hk1 _ _ ?_
   clear hk1 k1
   replace hA := hA.keep (.cons (i := 0) rfl (.cons (i := 1) rfl (.cons (i := 2) rfl (.cons (i := 3) rfl .nil))))
   refine wp_seq_k fun k8 hk8 => ?_
   refine wp_region_lit ?_
   refine go1 hA rfl rfl rfl (r_load (hA.ev rfl) T.fl75 (by exact (hS.p 1).cell rfl)) ?_; clear hA a; intro a hA
   refine go1 hA rfl rfl rfl (r_load (hA.ev rfl) T.fl75 (by exact (hS.p 1).cell rfl)) ?_; clear hA a; intro a hA
   refine go1 hA rfl rfl rfl (r_nil (hA.ev rfl)) ?_; clear hA a; intro a hA
   refine go1 hA rfl rfl rfl (r_field (hA.ev rfl) T.fo88_2) ?_; clear hA a; intro a hA
   refine goW hA rfl rfl T.fl4 T.sz4 rfl hS rfl ?_
   clear hS; intro w hS
   refine go1 hA rfl rfl rfl (r_nil (hA.ev rfl)) ?_; clear hA a; intro a hA
   refine go1 hA rfl rfl rfl (r_field (hA.ev rfl) T.fo88_0) ?_; clear hA a; intro a hA
   refine goW hA rfl rfl T.fl34 T.sz34 rfl hS rfl ?_
   clear hS; intro w hS
   refine wpList_nil ?_
   refine hk8 _ _ ?_
   clear hk8 k8
   replace hA := hA.keep (.cons (i := 0) rfl (.cons (i := 1) rfl (.cons (i := 2) rfl (.cons (i := 3) rfl .nil))))
   refine wp_seq_k fun k9 hk9 => ?_
   refine wp_seq_k fun k10 hk10 => ?_
   refine wp_region_lit ?_
   refine go1 hA rfl rfl rfl (r_move (hA.ev rfl)) ?_; clear hA a; intro a hA
   refine go1 hA rfl rfl rfl (r_taMiss (hA.ev rfl) hne T.ci90 (zero_run T.zv90)) ?_; clear hA a; intro a hA
   refine go1 hA rfl rfl rfl (r_move (hA.ev rfl)) ?_; clear hA a; intro a hA
   refine go1 hA rfl rfl rfl (r_ext (hA.ev rfl) rfl) ?_; clear hA a; intro a hA
   refine go1 hA rfl rfl rfl (r_ext (hA.ev rfl) rfl) ?_; clear hA a; intro a hA
   refine goN hA rfl T.zv90 hS ?_
   clear hA a hS; intro b4 w hS a hA
   refine goWS2 (vs := [_]) (cs' := [_]) hA rfl rfl T.sz90 (by simp [Value.oneCell']) hS rfl rfl ?_
   clear hS; intro w hS
   refine go1 hA rfl rfl rfl (r_assign (hA.ev rfl)) ?_; clear hA a; intro a hA
   refine wpList_nil ?_
   refine hk10 _ _ ?_
   clear hk10 k10
   replace hA := hA.keep (.cons (i := 0) rfl (.cons (i := 1) rfl (.cons (i := 2) rfl (.cons (i := 3) rfl (.cons (i := 4) rfl (.cons (i := 5) rfl .nil))))))
   refine wp_seq_k fun k11 hk11 => ?_
   refine wp_region_lit ?_
   refine go1 hA rfl rfl rfl (r_move (hA.ev rfl)) ?_; clear hA a; intro a hA
   refine go1 hA rfl rfl rfl (r_move (hA.ev rfl)) ?_; clear hA a; intro a hA
   refine goS hA (wanted_no hA rfl rfl rfl rfl) rfl rfl ?_; clear hA a; intro a hA
   refine goS hA (wanted_no hA rfl rfl rfl rfl) rfl rfl ?_; clear hA a; intro a hA
   refine goS hA (wanted_no hA rfl rfl rfl rfl) rfl rfl ?_; clear hA a; intro a hA
   refine goS hA (wanted_no hA rfl rfl rfl rfl) rfl rfl ?_; clear hA a; intro a hA
   refine go1 hA rfl rfl rfl (r_pick_f (hA.ev rfl) (hA.ev rfl)) ?_; clear hA a; intro a hA
   refine go1 hA rfl rfl rfl (r_move (hA.ev rfl)) ?_; clear hA a; intro a hA
   refine goS hA (wanted_no hA rfl rfl rfl rfl) rfl rfl ?_; clear hA a; intro a hA
   refine goS hA (wanted_no hA rfl rfl rfl rfl) rfl rfl ?_; clear hA a; intro a hA
   refine goS hA (wanted_no hA rfl rfl rfl rfl) rfl rfl ?_; clear hA a; intro a hA
   refine goS hA (wanted_no hA rfl rfl rfl rfl) rfl rfl ?_; clear hA a; intro a hA
   refine goS hA (wanted_no hA rfl rfl rfl rfl) rfl rfl ?_; clear hA a; intro a hA
   refine go1 hA rfl rfl rfl (r_pick_f (hA.ev rfl) (hA.ev rfl)) ?_; clear hA a; intro a hA
   refine wpList_nil ?_
   refine hk11 _ _ ?_
   clear hk11 k11
   replace hA := hA.keep (.cons (i := 0) rfl (.cons (i := 1) rfl (.cons (i := 2) rfl (.cons (i := 3) rfl (.cons (i := 4) rfl (.cons (i := 41) rfl .nil))))))
   refine wp_cond_false (hA.ev rfl) ?_
   refine wp_skip ?_
   refine hk9 _ _ ?_
   clear hk9 k9
   replace hA := hA.keep (.cons (i := 0) rfl (.cons (i := 1) rfl (.cons (i := 2) rfl (.cons (i := 3) rfl .nil))))
   refine wp_block ?_
   refine wp_seq_k fun k12 hk12 => ?_
   refine wp_region_lit ?_
   refine go1 hA rfl rfl rfl (r_load (hA.ev rfl) T.fl75 (by exact (hS.p 2).cell rfl)) ?_; clear hA a; intro a hA
   refine go1 hA rfl rfl rfl (r_nil (hA.ev rfl)) ?_; clear hA a; intro a hA
   refine go1 hA rfl rfl rfl (r_field (hA.ev rfl) T.fo88_3) ?_; clear hA a; intro a hA
   refine go1 hA rfl rfl rfl (r_load (hA.ev rfl) T.fl25 (by exact (hS.p 1).cell rfl)) ?_; clear hA a; intro a hA
   refine go1s hA rfl rfl rfl (r_neq (hA.ev rfl) (hA.ev rfl)) ?_ ?_
   ·
    clear hA a; intro h49 a hA
    all_goals
     skip
     refine go1 hA rfl rfl rfl (r_assign (hA.ev rfl)) ?_; clear hA a; intro a hA
     refine wpList_nil ?_
     refine hk12 _ _ ?_
     clear hk12 k12
     replace hA := hA.keep (.cons (i := 0) rfl (.cons (i := 1) rfl (.cons (i := 2) rfl (.cons (i := 3) rfl (.cons (i := 44) rfl .nil)))))
     refine wp_cond_true (hA.ev rfl) ?_
     refine wp_region_lit ?_
     refine go1 hA rfl rfl rfl (r_load (hA.ev rfl) T.fl75 (by exact (hS.p 2).cell rfl)) ?_; clear hA a; intro a hA
     refine go1 hA rfl rfl rfl (r_nil (hA.ev rfl)) ?_; clear hA a; intro a hA
     refine go1 hA rfl rfl rfl (r_field (hA.ev rfl) T.fo88_3) ?_; clear hA a; intro a hA
     refine go1 hA rfl rfl rfl (r_load (hA.ev rfl) T.fl25 (by exact (hS.p 1).cell rfl)) ?_; clear hA a; intro a hA
     refine goW hA rfl rfl T.fl25 T.sz25 rfl (hS.p 3) rfl ?_
     clear hS; intro w hS
     refine wpList_nil ?_
     refine block_normal ?_
     refine end_n (e := .ret) ?_
     refine end0 hA rfl  ?_
     first
      | (rw [if_pos h49]; exact ⟨rfl, (((hS.p 3).p 3).p 3).drop⟩)
      | (rw [if_neg h49, if_pos h16]; exact ⟨rfl, (((hS.p 3).p 3).p 3).drop⟩)
      | (rw [if_neg h49, if_neg h16]; exact ⟨rfl, hS.drop⟩)
      | (rw [if_neg h49]; exact ⟨rfl, (((hS.p 3).p 3).p 3).drop⟩)
   ·
    clear hA a; intro h49 a hA
    all_goals
     skip
     refine go1 hA rfl rfl rfl (r_assign (hA.ev rfl)) ?_; clear hA a; intro a hA
     refine wpList_nil ?_
     refine hk12 _ _ ?_
     clear hk12 k12
     replace hA := hA.keep (.cons (i := 0) rfl (.cons (i := 1) rfl (.cons (i := 2) rfl (.cons (i := 3) rfl (.cons (i := 44) rfl .nil)))))
     refine wp_cond_false (hA.ev rfl) ?_
     refine wp_seq_k fun k13 hk13 => ?_
     refine wp_region_lit ?_
     refine go1 hA rfl rfl rfl (r_move (hA.ev rfl)) ?_; clear hA a; intro a hA
     refine go1 hA rfl rfl rfl (r_neqI (hA.ev rfl) (hA.ev rfl) (show isIface Try.prog 20 = true by kernel_rfl)) ?_; clear hA a; intro a hA
     refine go1 hA rfl rfl rfl (r_assign (hA.ev rfl)) ?_; clear hA a; intro a hA
     refine wpList_nil ?_
     refine hk13 _ _ ?_
     clear hk13 k13
     replace hA := hA.keep (.cons (i := 1) rfl (.cons (i := 3) rfl (.cons (i := 54) rfl .nil)))
     refine wp_cond_true (hA.ev rfl) ?_
     refine wp_region_lit ?_
     refine goW hA rfl rfl T.fl25 T.sz25 rfl (hS.p 3) rfl ?_
     clear hS; intro w hS
     refine wpList_nil ?_
     refine block_normal ?_
     refine end_n (e := .ret) ?_
     refine end0 hA rfl  ?_
     first
      | (rw [if_pos h49]; exact ⟨rfl, (((hS.p 3).p 3).p 3).drop⟩)
      | (rw [if_neg h49, if_pos h16]; exact ⟨rfl, (((hS.p 3).p 3).p 3).drop⟩)
      | (rw [if_neg h49, if_neg h16]; exact ⟨rfl, hS.drop⟩)
      | (rw [if_neg h49]; exact ⟨rfl, (((hS.p 3).p 3).p 3).drop⟩)
end Go.Proofs.Ytfbdcllbgfohdaa.Wk
set_option linter.unusedVariables false
set_option linter.unusedSimpArgs false
namespace Go.Proofs.Ytfbdcllbgfohdaa.Wk
open Go Go.RowKit Go.Proofs.Ytfbdcllbgfohdaa Go.Proofs.Ytfbdcllbgfohdaa.K
/-! wire.Read's deferred function, whole -/
section
variable {P : Program} {Q : Exit → Act → List Frame → World → Prop} {a : Act} {cs cs' : List Frame} {w w' : World} {ops : Array Oper} {i : Nat} {rest : List Nat} {o : Oper} {v : Value}
theorem recS_some (ho : ops[i]? = some o) (hg : o.guard = none) (hr : (execOp a.eval o).run P w = .ok .recover w') (hc : recoverD cs = some (v, cs')) (k : wpOpsS P ops Q rest (a.put o.dst v) cs' w') : wpOpsS P ops Q (i :: rest) a cs w := by
 rw [wpOpsS]
 simp only [ho, Region.wanted, hg, if_true, hr, hc]
 exact k
theorem recS_none (ho : ops[i]? = some o) (hg : o.guard = none) (hr : (execOp a.eval o).run P w = .ok .recover w') (hc : recoverD cs = none) (k : wpOpsS P ops Q rest (a.put o.dst .nilIface) cs w') : wpOpsS P ops Q (i :: rest) a cs w := by
 rw [wpOpsS]
 simp only [ho, Region.wanted, hg, if_true, hr, hc]
 exact k
theorem valS (ho : ops[i]? = some o) (hg : o.guard = none) (hr : (execOp a.eval o).run P w = .ok (.value v) w') (k : wpOpsS P ops Q rest (a.put o.dst v) cs w') : wpOpsS P ops Q (i :: rest) a cs w := by
 rw [wpOpsS]
 simp only [ho, Region.wanted, hg, if_true, hr, Oper.upon]
 exact k
end
theorem read1_enter {R : Ending → World → Prop} (x : Value) (u u' : FrameMode) (w : World) (q p : Nat)
 (hx : ∀ (c₀ : Frame) (cs : List Frame), c₀.mode = u → recoverD (c₀ :: cs) = some (x, { c₀ with mode := u' } :: cs) ∨ (recoverD (c₀ :: cs) = none ∧ x = .nilIface ∧ u' = u))
 (h : ∀ a, Ag a 59 [(0, .pointer (some ⟨q, 0, none⟩)), (1, .pointer (some ⟨p, 0, none⟩)), (2, x)] → (restOf Try.f63.body).wp Try.prog (bodyPost Try.prog Try.f63 R) a w) :
 CallsD Try.prog 63 #[.pointer (some ⟨q, 0, none⟩), .pointer (some ⟨p, 0, none⟩)] u w fun e v w' => v = u' ∧ R e w' := by
 refine callsD_of_wpS Try.func63 rfl fun c₀ cs hc => wpS_seq (wpS_region ?_)
 have hA0 : Ag { tmps := #[.pointer (some ⟨q, 0, none⟩), .pointer (some ⟨p, 0, none⟩)] ++ Array.replicate (Try.f63.ntmps - 2) undef, defers := [] } 59 [(0, .pointer (some ⟨q, 0, none⟩)), (1, .pointer (some ⟨p, 0, none⟩))] :=
  Ag.enter _ 59 (by simp) (by intro z hz; simp at hz; rcases hz with rfl | rfl <;> rfl)
 show wpOpsS Try.prog _ _ [0, 1] _ _ _
 have key : ∀ a' cs', Ag a' 59 [(0, .pointer (some ⟨q, 0, none⟩)), (1, .pointer (some ⟨p, 0, none⟩)), (2, x)] → cs' = { c₀ with mode := u' } :: cs →
  (restOf Try.f63.body).wpS Try.prog (bodyPostS Try.prog Try.f63 c₀ cs (fun e v w' => v = u' ∧ R e w')) a' cs' w := fun a' cs' hA hcs =>
  wpS_of_wp (wp_mono (h a' hA) fun e a2 w2 hq => by
   cases e with
   | normal => obtain ⟨h1, v, h2, h3⟩ := hq; exact ⟨h1, u', hcs, v, h2, rfl, h3⟩
   | ret => obtain ⟨h1, v, h2, h3⟩ := hq; exact ⟨h1, u', hcs, v, h2, rfl, h3⟩
   | panic ch => exact ⟨hq.1, u', hcs, rfl, hq.2⟩
   | outgrown => exact ⟨u', rfl, hq⟩
   | exit i => exact hq
   | goto l => exact hq)
 rcases hx c₀ cs hc with h1 | ⟨h1, rfl, rfl⟩
 ·
  refine recS_some rfl rfl rfl h1 ?_
  have hA1 := hA0.put (d := 6) (by rfl) x
  refine valS rfl rfl (r_assign (hA1.ev rfl)) ?_
  have hA2 := hA1.put (d := 2) (by rfl) x
  exact key _ _ (hA2.keep (.cons (i := 0) rfl (.cons (i := 1) rfl (.cons (i := 2) rfl .nil)))) rfl
 ·
  refine recS_none rfl rfl rfl h1 ?_
  have hA1 := hA0.put (d := 6) (by rfl) .nilIface
  refine valS rfl rfl (r_assign (hA1.ev rfl)) ?_
  have hA2 := hA1.put (d := 2) (by rfl) .nilIface
  exact key _ _ (hA2.keep (.cons (i := 0) rfl (.cons (i := 1) rfl (.cons (i := 2) rfl .nil)))) (by subst hc; rfl)
end Go.Proofs.Ytfbdcllbgfohdaa.Wk
set_option linter.unusedVariables false
set_option linter.unusedSimpArgs false
namespace Go.Proofs.Ytfbdcllbgfohdaa.Wk
open Go Go.RowKit Go.Proofs.Ytfbdcllbgfohdaa Go.Proofs.Ytfbdcllbgfohdaa.K
/-! how wire.Read is left -/
def dead (r : Nat) (at_ err : Int) : As := pto r (.cells #[.slice none 0 0, .int .i64 at_, .bool false, .int .i64 err] 88)
def cellP (q r : Nat) : As := pto q (.cells #[.pointer (some ⟨r, 0, none⟩)] 75)
def cellE (p : Nat) (x : Int) : As := pto p (.cells #[.int .i64 x] 25)
set_option maxRecDepth 100000 in
theorem read_leaves {R : Ending → World → Prop} {a : Act} {E : Env} (W w : World) (L : List As) (r q p : Nat) (at_ err : Int) (x : Value) (u u' : FrameMode) (hu : u ≠ .run)
 (hx : ∀ (c₀ : Frame) (cs : List Frame), c₀.mode = u → recoverD (c₀ :: cs) = some (x, { c₀ with mode := u' } :: cs) ∨ (recoverD (c₀ :: cs) = none ∧ x = .nilIface ∧ u' = u)) (hset : settle u' = .returning) (fin : Int)
 (htail : ∀ a, Ag a 59 [(0, .pointer (some ⟨q, 0, none⟩)), (1, .pointer (some ⟨p, 0, none⟩)), (2, x)] → (restOf Try.f63.body).wp Try.prog (bodyPost Try.prog Try.f63 fun e w' => e = .returned (.tuple #[]) ∧ Sat W w' (dead r at_ err :: cellP q r :: cellE p fin :: L)) a w)
 (hA : AgD [{ target := .fn (.func 63) #[.pointer (some ⟨q, 0, none⟩), .pointer (some ⟨p, 0, none⟩)], args := #[] }] a 15 E) (h4 : find 4 E = some (.pointer (some ⟨p, 0, none⟩)))
 (hR : ∀ w', Sat W w' (dead r at_ err :: cellP q r :: cellE p fin :: L) → R (.returned (.int .i64 fin)) w') : Leaves Try.prog Try.f43 a.tmps R a.defers u w := by
 rw [hA.defers]
 have hinv : (invoke (.fn (.func 63) #[.pointer (some ⟨q, 0, none⟩), .pointer (some ⟨p, 0, none⟩)]) #[]).run Try.prog w = .ok (.enter 63 #[.pointer (some ⟨q, 0, none⟩), .pointer (some ⟨p, 0, none⟩)]) w := by
  have h := run_callFunc (w := w) (args := #[.pointer (some ⟨q, 0, none⟩), .pointer (some ⟨p, 0, none⟩)]) T.en63
  have e : (#[] : Array Value) ++ #[.pointer (some ⟨q, 0, none⟩), .pointer (some ⟨p, 0, none⟩)] = #[.pointer (some ⟨q, 0, none⟩), .pointer (some ⟨p, 0, none⟩)] := by simp
  show (callFunc 63 ((#[] : Array Value) ++ #[.pointer (some ⟨q, 0, none⟩), .pointer (some ⟨p, 0, none⟩)])).run Try.prog w = _
  rw [e, h]
 refine leaves_cons hu hinv (CallsD.mono (read1_enter x u u' w q p hx htail) fun e v w' hh => ?_)
 obtain ⟨rfl, rfl, hS⟩ := hh
 show Leaves Try.prog Try.f43 a.tmps R [] (settle v) w'
 rw [hset]
 have hc : w'.cell? ⟨p, 0, none⟩ = some (.int .i64 fin) := by
  have h2 := hS.p 2
  unfold cellE at h2
  exact h2.cell rfl
 have hres := resC (P := Try.prog) (w := w') (s := 4) (t := 25) hA.base h4 T.fl25 hc
 refine ⟨.int .i64 fin, ?_, hR w' hS⟩
 rw [results_eq]
 show (((#[ResultVar.cell 4 25] : Array ResultVar).mapM (resOf a.tmps)).bind _).run Try.prog w' = _
 rw [Sem.run_bind', mapM1 hres]
 rfl
end Go.Proofs.Ytfbdcllbgfohdaa.Wk
set_option linter.unusedVariables false
set_option linter.unusedSimpArgs false
namespace Go.Proofs.Ytfbdcllbgfohdaa.Wk
open Go Go.RowKit Go.Proofs.Ytfbdcllbgfohdaa Go.Proofs.Ytfbdcllbgfohdaa.K
open K.D
/-- Read's error. -/
def finR (ok : Bool) (err at_ : Int) (n : Nat) : Int := if err ≠ 0 then err else if ok = false then 8 else if at_ < n then 52 else 0
theorem finR_t {ok : Bool} {err at_ : Int} {n : Nat} (h : ok = true) : finR ok err at_ n = if err ≠ 0 then err else if at_ < n then 52 else 0 := by subst h; simp [finR]
theorem finR_f {ok : Bool} {err at_ : Int} {n : Nat} (h : ok = false) : finR ok err at_ n = if err ≠ 0 then err else 8 := by subst h; simp [finR]
/-- How a call of what Read is handed ends: it comes back, or it panics with its reader's word, or with another. -/
def OutR (r : Nat) (ok : Bool) (e : Ending) : Prop := (ok = true ∧ e = .returned (.tuple #[])) ∨ (ok = false ∧ (Pan (.iface 90 (.agg #[.pointer (some ⟨r, 0, none⟩)])) e ∨ ∃ (tx : TypeId) (vx : Value), tx ≠ 90 ∧ Pan (.iface tx vx) e))
theorem dropW : ∀ (l : List PanicEntry), l.all (fun x => !x.goexit) = true → l.dropWhile (fun x => !x.goexit) = []
 | [], _ => rfl
 | x :: l, h => by
   simp only [List.all_cons, Bool.and_eq_true] at h
   rw [List.dropWhile_cons, if_pos h.1, dropW l h.2]
theorem settleR {v : Value} {older : List PanicEntry} (ho : older.all (fun x => !x.goexit) = true) : settle (.panicking ({ v := v, recovered := true } :: older)) = .returning := by
 simp only [settle]
 rw [dropW older ho]
theorem recR {v : Value} {older : List PanicEntry} (c₀ : Frame) (cs : List Frame) (hc : c₀.mode = .panicking ({ v := v, recovered := false } :: older)) : recoverD (c₀ :: cs) = some (v, { c₀ with mode := .panicking ({ v := v, recovered := true } :: older) } :: cs) := by
 simp only [recoverD, hc]
theorem recN (c₀ : Frame) (cs : List Frame) (hc : c₀.mode = .returning) : recoverD (c₀ :: cs) = none := by
 simp only [recoverD, hc]
set_option maxRecDepth 100000 in
set_option maxHeartbeats 1000000 in
theorem Read_calls (W w : World) (L : List As) (A : Option Addr) (c : Nat) (bs : List UInt8) (Φ : Nat → Int → Int → Bool → List As → Prop) (fid : Nat) (caps : List Value) (hS : Sat W w (L)) (hb : bs.length ≤ 140737488355328) (hen : enters Try.prog fid = true) (hcl : ∀ (w : World) (r q p : Nat), Sat W w (rdc r A c bs 0 true 0 :: cellP q r :: cellE p 0 :: L) → Calls Try.prog fid ([Value.pointer (some ⟨r, 0, none⟩)] ++ caps).toArray w fun e w' => ∃ (at' err : Int) (ok : Bool) (M : List As), OutR r ok e ∧ Sat W w' (rdc r A c bs at' true err :: cellP q r :: cellE p 0 :: M) ∧ Φ r at' err ok M) : Calls Try.prog 43 #[.slice A bs.length c, .func (.func fid) #[] caps.toArray] w fun e w' => ∃ (r q p : Nat) (at' err : Int) (ok : Bool) (M : List As), e = .returned (.int .i64 (finR ok err at' bs.length)) ∧ Sat W w' (dead r at' err :: cellP q r :: cellE p (finR ok err at' bs.length) :: M) ∧ Φ r at' err ok M := by
 refine enterDf Try.func43 rfl rfl rfl (.cons (i := 0) rfl (.cons (i := 1) rfl .nil)) ?_
 intro a hA
 refine wp_seq_k fun k1 hk1 => ?_
 refine wp_region_lit ?_
 refine goN hA rfl T.zv25 hS ?_
 clear hA a hS; intro b4 w hS a hA
 refine wpList_nil ?_
 refine hk1 _ _ ?_
 clear hk1 k1
 refine wp_seq_k fun k2 hk2 => ?_
 refine wp_region_lit ?_
 refine go1 hA rfl rfl rfl (r_move (hA.ev rfl)) ?_; clear hA a; intro a hA
 refine go1 hA rfl rfl rfl (r_build hA rfl T.bd88_0_2) ?_; clear hA a; intro a hA
 refine goB hA rfl rfl hS ?_
 clear hA a hS; intro b8 w hS a hA
 refine goN hA rfl T.zv75 hS ?_
 clear hA a hS; intro b5 w hS a hA
 refine goW hA rfl rfl T.fl75 T.sz75 rfl hS rfl ?_
 clear hS; intro w hS
 refine wpList_nil ?_
 refine hk2 _ _ ?_
 clear hk2 k2
 replace hA := hA.keep (.cons (i := 1) rfl (.cons (i := 4) rfl (.cons (i := 5) rfl .nil)))
 refine wp_seq_k fun k3 hk3 => ?_
 refine wp_region_lit ?_
 refine go1 hA rfl rfl rfl (r_mkF (hA.evl rfl)) ?_; clear hA a; intro a hA
 refine goDefer hA rfl ?_; clear hA a; intro a hA
 refine wpList_nil ?_
 refine hk3 _ _ ?_
 clear hk3 k3
 replace hA := hA.keep (.cons (i := 1) rfl (.cons (i := 4) rfl (.cons (i := 5) rfl .nil)))
 refine wp_seq_k fun k4 hk4 => ?_
 refine wp_seq_k fun k5 hk5 => ?_
 refine wp_region_lit ?_
 refine go1 hA rfl rfl rfl (r_move (hA.ev rfl)) ?_; clear hA a; intro a hA
 refine go1 hA rfl rfl rfl (r_neqF (hA.ev rfl) (hA.ev rfl) (isFunc_get T.uf78).choose_spec.choose_spec.choose_spec) ?_; clear hA a; intro a hA
 refine wpList_nil ?_
 refine hk5 _ _ ?_
 clear hk5 k5
 replace hA := hA.keep (.cons (i := 1) rfl (.cons (i := 4) rfl (.cons (i := 5) rfl (.cons (i := 11) rfl .nil))))
 refine wp_cond_true (hA.ev rfl) ?_
 refine wp_region_lit ?_
 refine go1 hA rfl rfl rfl (r_move (hA.ev rfl)) ?_; clear hA a; intro a hA
 refine go1 hA rfl rfl rfl (r_load (hA.ev rfl) T.fl75 (by exact hS.cell rfl)) ?_; clear hA a; intro a hA
 refine goVP hA rfl hen rfl rfl (hcl _ b8 b5 b4 hS.pull1) ?_
 obtain ⟨r, hr⟩ : ∃ r, r = b8 := ⟨_, rfl⟩; obtain ⟨q, hq⟩ : ∃ q, q = b5 := ⟨_, rfl⟩; obtain ⟨p, hp⟩ : ∃ p, p = b4 := ⟨_, rfl⟩; subst hr hq hp; clear hS; rintro e w ⟨at', err, ok, M, (⟨hok, rfl⟩ | ⟨hok, (⟨older, rfl, ho⟩ | ⟨tx, vx, htx, older, rfl, ho⟩)⟩), hS, hΦ⟩
 ·
  skip
  change Sat W w (pto r (.cells #[.slice A bs.length c, .int .i64 at', .bool true, .int .i64 err] 88) :: pto q (.cells #[.pointer (some ⟨r, 0, none⟩)] 75) :: pto p (.cells #[.int .i64 0] 25) :: M) at hS
  refine .inl ⟨_, rfl, ?_⟩; clear hA a; intro a hA
  refine wpList_nil ?_
  refine hk4 _ _ ?_
  clear hk4 k4
  replace hA := hA.keep (.cons (i := 4) rfl .nil)
  refine wp_seq_k fun k6 hk6 => ?_
  refine wp_region_lit ?_
  refine goW hA rfl rfl T.fl25 T.sz25 rfl (hS.p 2) rfl ?_
  clear hS; intro w hS
  refine wpList_nil ?_
  refine hk6 _ _ ?_
  clear hk6 k6
  refine wp_ret ?_
  replace hS := ((hS.p 2).p 2)
  exact read_leaves W w M r q p at' err .nilIface .returning .returning (by simp) (fun c₀ cs hc => .inr ⟨recN c₀ cs hc, rfl, rfl⟩) rfl (finR ok err at' bs.length) (fun a hA => by have hh := read1_nil W w M r q p A bs.length c at' err 0 true hb a hA hS; rw [finR_t hok]; exact hh) hA rfl (fun w' hS => ⟨r, q, p, at', err, ok, M, by rfl, hS, hΦ⟩)
 ·
  skip
  refine .inr ⟨_, rfl, ?_⟩
  refine then_panic ?_; clear hk4 k4
  change Sat W w (pto r (.cells #[.slice A bs.length c, .int .i64 at', .bool true, .int .i64 err] 88) :: pto q (.cells #[.pointer (some ⟨r, 0, none⟩)] 75) :: pto p (.cells #[.int .i64 0] 25) :: M) at hS; exact read_leaves W w M r q p at' err (.iface 90 (.agg #[.pointer (some ⟨r, 0, none⟩)])) (.panicking ({ v := (.iface 90 (.agg #[.pointer (some ⟨r, 0, none⟩)])), recovered := false } :: older)) (.panicking ({ v := (.iface 90 (.agg #[.pointer (some ⟨r, 0, none⟩)])), recovered := true } :: older)) (by simp) (fun c₀ cs hc => .inl (recR c₀ cs hc)) (settleR ho) (finR ok err at' bs.length) (fun a hA => by have hh := read1_own W w M r q p A bs.length c at' err 0 true hb a hA hS; rw [finR_f hok]; exact hh) hA rfl (fun w' hS => ⟨r, q, p, at', err, ok, M, by rfl, hS, hΦ⟩)
 ·
  skip
  refine .inr ⟨_, rfl, ?_⟩
  refine then_panic ?_; clear hk4 k4
  change Sat W w (pto r (.cells #[.slice A bs.length c, .int .i64 at', .bool true, .int .i64 err] 88) :: pto q (.cells #[.pointer (some ⟨r, 0, none⟩)] 75) :: pto p (.cells #[.int .i64 0] 25) :: M) at hS; exact read_leaves W w M r q p at' err (.iface tx vx) (.panicking ({ v := (.iface tx vx), recovered := false } :: older)) (.panicking ({ v := (.iface tx vx), recovered := true } :: older)) (by simp) (fun c₀ cs hc => .inl (recR c₀ cs hc)) (settleR ho) (finR ok err at' bs.length) (fun a hA => by have hh := read1_other W w M r q p A bs.length c at' err 0 true tx vx htx hb a hA hS; rw [finR_f hok]; exact hh) hA rfl (fun w' hS => ⟨r, q, p, at', err, ok, M, by rfl, hS, hΦ⟩)
end Go.Proofs.Ytfbdcllbgfohdaa.Wk
