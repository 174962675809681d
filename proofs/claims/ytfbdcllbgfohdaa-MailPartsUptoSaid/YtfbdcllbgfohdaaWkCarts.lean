/- The walks of barrowref18.CartsOf, mail.Carts and barrowref03.Equal. Conditions: at most 2 to the 43 parts. -/
import Derived.Test.YtfbdcllbgfohdaaT
import Derived.Test.YtfbdcllbgfohdaaWkMail2
set_option linter.unusedVariables false
set_option linter.unusedSimpArgs false
namespace Go.Proofs.Ytfbdcllbgfohdaa.Wm
open Go Go.RowKit Go.Proofs.Ytfbdcllbgfohdaa Go.Proofs.Ytfbdcllbgfohdaa.K
def cartsOf (ps : List PartD) : List Value := ps.map fun p => Value.int .i64 p.cart
theorem one_carts (l : List PartD) : ∀ u ∈ cartsOf l, u.oneCell' = true := fun u hu => by
  obtain ⟨x, _, rfl⟩ := List.mem_map.1 hu; rfl
theorem int_at {xs : List Int} {i : Nat} {x : Int} (h : xs[i]? = some x) : (xs.map (Value.int .i64))[i * 1]? = some (.int .i64 x) := by
  rw [Nat.mul_one, List.getElem?_map, h]; rfl
set_option maxRecDepth 100000 in
theorem RefCarts_calls (W : World) (k f t lo hi : Int) (A : Option Addr) (c : Nat) (ps : List PartD) (hR : Rd W 2 (.slice A ps.length c) ps.length (ps.flatMap encP)) (hlen : ps.length ≤ 8796093022208) : Calls Try.prog 18 #[.agg #[.int .i64 k, .int .i64 f, .int .i64 t, .int .i64 lo, .int .i64 hi, .slice A ps.length c]] W fun e w' => ∃ A' c', e = .returned (.slice A' ps.length c') ∧ Sat W w' [row 3 1 (.slice A' ps.length c') ps.length (cartsOf ps)] := by
  refine enter Try.func18 rfl rfl rfl (.cons (i := 0) rfl .nil) ?_
  intro a hA
  have hS := Sat.start W
  refine wp_seq_k fun k1 hk1 => ?_
  refine wp_region_lit ?_
  refine goB hA rfl rfl hS ?_
  clear hA a hS; intro b1 w hS a hA
  refine go1 hA rfl rfl rfl (r_assign (hA.ev rfl)) ?_; clear hA a; intro a hA
  refine wpList_nil ?_
  refine hk1 _ _ ?_
  clear hk1 k1
  replace hA := hA.keep (.cons (i := 1) rfl (.cons (i := 2) rfl .nil))
  refine wp_seq_k fun k2 hk2 => ?_
  refine wp_region_lit ?_
  refine go1 hA rfl rfl rfl (r_assign (hA.ev rfl)) ?_; clear hA a; intro a hA
  refine wpList_nil ?_
  refine hk2 _ _ ?_
  clear hk2 k2
  refine wp_seq_k fun k3 hk3 => ?_
  refine wp_seq_k fun k4 hk4 => ?_
  refine wp_region_lit ?_
  refine go1 hA rfl rfl rfl (r_assign (hA.ev rfl)) ?_; clear hA a; intro a hA
  refine wpList_nil ?_
  refine hk4 _ _ ?_
  clear hk4 k4
  refine wp_block ?_
  replace hS := hS.row_nil 3 1
  refine wp_loop_ghost (fun (mm : Nat) a w => ∃ (i : Int) (A' : Option Addr) (c' : Nat), Ag a 22 [(1, .pointer (some ⟨b1, 0, none⟩)), (3, .slice A' i.toNat c'), (4, .int .i64 i)] ∧ Sat W w [row 3 1 (.slice A' i.toNat c') i.toNat (cartsOf (ps.take i.toNat)), pto b1 (.cells #[.int .i64 k, .int .i64 f, .int .i64 t, .int .i64 lo, .int .i64 hi, .slice A ps.length c] 24)] ∧ 0 ≤ i ∧ i ≤ ps.length ∧ mm = (ps.length - i).toNat) ps.length ?_ ?_
  · replace hA := hA.keep (.cons (i := 1) rfl (.cons (i := 3) rfl (.cons (i := 4) rfl .nil)))
    exact ⟨0, none, 0, hA, hS, by omega, by omega, by omega⟩
  intro m a w hI
  obtain ⟨i, A', c', hA, hS, hi0, hi1, rfl⟩ := hI
  refine wp_seq_k fun k5 hk5 => ?_
  refine wp_seq_k fun k6 hk6 => ?_
  refine wp_region_lit ?_
  refine go1 hA rfl rfl rfl (r_move (hA.ev rfl)) ?_; clear hA a; intro a hA
  refine go1 hA rfl rfl rfl (r_field (hA.ev rfl) T.fo24_5) ?_; clear hA a; intro a hA
  refine go1 hA rfl rfl rfl (r_load (hA.ev rfl) T.fl22 (by first | exact hS.cell rfl | exact (hS.p 1).cell rfl | exact (hS.p 2).cell rfl)) ?_; clear hA a; intro a hA
  refine go1 hA rfl rfl rfl (r_lens (hA.ev rfl) T.un22) ?_; clear hA a; intro a hA
  refine go1s hA rfl rfl rfl (r_lss (hA.ev rfl) (hA.ev rfl)) ?_ ?_
  · clear hA a; intro h9 a hA
    obtain ⟨p0, rfl⟩ : ∃ p, A = some p := hR.hasAddr (by omega)
    obtain ⟨p, hp⟩ : ∃ p, ps[i.toNat]? = some p := ⟨_, List.getElem?_eq_getElem (by omega)⟩
    refine wpList_nil ?_
    refine hk6 _ _ ?_
    clear hk6 k6
    refine wp_cond_true (hA.ev rfl) ?_
    refine wp_skip ?_
    refine hk5 _ _ ?_
    clear hk5 k5
    refine wp_seq_k fun k7 hk7 => ?_
    refine wp_block ?_
    refine wp_region_lit ?_
    refine go1 hA rfl rfl rfl (r_move (hA.ev rfl)) ?_; clear hA a; intro a hA
    refine go1 hA rfl rfl rfl (r_field (hA.ev rfl) T.fo24_5) ?_; clear hA a; intro a hA
    refine go1 hA rfl rfl rfl (r_load (hA.ev rfl) T.fl22 (by first | exact hS.cell rfl | exact (hS.p 1).cell rfl | exact (hS.p 2).cell rfl)) ?_; clear hA a; intro a hA
    refine go1 hA rfl rfl rfl (r_move (hA.ev rfl)) ?_; clear hA a; intro a hA
    refine go1 hA rfl rfl rfl (r_index (hA.ev rfl) (hA.ev rfl) T.un22 T.sz49 (by omega) (by omega)) ?_; clear hA a; intro a hA
    refine go1 hA rfl rfl rfl (r_fieldP (hA.ev rfl) T.fo49_0) ?_; clear hA a; intro a hA
    refine go1 hA rfl rfl rfl (r_load (hA.ev rfl) T.fl3 ((hR.sat hS).elem (part_at hp) 0 _ rfl)) ?_; clear hA a; intro a hA
    refine goL hA rfl rfl T.un32 T.el3 rfl rfl rfl (by simp [Value.oneCell']) hS ?_
    clear hA a hS; intro A19 w hS a hA
    replace hS := hS.pull1
    refine goA' hA rfl rfl rfl T.un32 T.el3 rfl hS (hS.pull1.rd.src T.un32 (by simp [Value.oneCell'])) (by omega) (by omega) ?_
    clear hA a hS; intro A20 c20 w hc20 hS a hA
    refine go1 hA rfl rfl rfl (r_assign (hA.ev rfl)) ?_; clear hA a; intro a hA
    refine wpList_nil ?_
    refine block_normal ?_
    refine hk7 _ _ ?_
    clear hk7 k7
    refine wp_region_lit ?_
    refine go1 hA rfl rfl rfl (r_move (hA.ev rfl)) ?_; clear hA a; intro a hA
    refine go1 hA rfl rfl rfl (r_add64 (hA.ev rfl) (hA.ev rfl) (by omega) (by omega)) ?_; clear hA a; intro a hA
    refine go1 hA rfl rfl rfl (r_assign (hA.ev rfl)) ?_; clear hA a; intro a hA
    refine wpList_nil ?_
    replace hA := hA.keep (.cons (i := 1) rfl (.cons (i := 3) rfl (.cons (i := 4) rfl .nil)))
    refine ⟨(ps.length - (i + 1)).toNat, by omega, i + 1, A20, c20, ?_, ?_, by omega, by omega, rfl⟩
    · rw [show (i + 1).toNat = i.toNat + 1 from by omega]; exact hA
    · rw [show (i + 1).toNat = i.toNat + 1 from by omega, List.take_add_one, hp]
      simp only [cartsOf, List.map_append, Option.toList_some, List.map_cons, List.map_nil]
      exact hS.pull2.pull2.drop.pull1
  · clear hA a; intro h9 a hA
    refine wpList_nil ?_
    refine hk6 _ _ ?_
    clear hk6 k6
    refine wp_cond_false (hA.ev rfl) ?_
    refine wp_exit ?_
    refine then_exit ?_; clear hk5 k5
    refine then_exit ?_
    refine block_hit ?_
    refine hk3 _ _ ?_
    clear hk3 k3
    replace hA := hA.keep (.cons (i := 3) rfl .nil)
    refine wp_seq_k fun k8 hk8 => ?_
    refine wp_region_lit ?_
    refine go1 hA rfl rfl rfl (r_move (hA.ev rfl)) ?_; clear hA a; intro a hA
    refine go1 hA rfl rfl rfl (r_assign (hA.ev rfl)) ?_; clear hA a; intro a hA
    refine wpList_nil ?_
    refine hk8 _ _ ?_
    clear hk8 k8
    replace hA := hA.keep (.cons (i := 2) rfl .nil)
    refine wp_ret ?_
    refine end1 hA rfl rfl ?_
    obtain rfl : i = ps.length := by omega
    simp only [Int.toNat_natCast, List.take_length] at hS ⊢
    exact ⟨_, _, rfl, hS.pull1.drop⟩
set_option maxRecDepth 100000 in
theorem Carts_calls (W : World) (k f t lo hi : Int) (A : Option Addr) (c : Nat) (ps : List PartD) (hR : Rd W 2 (.slice A ps.length c) ps.length (ps.flatMap encP)) (hlen : ps.length ≤ 8796093022208) : Calls Try.prog 21 #[.agg #[.int .i64 k, .int .i64 f, .int .i64 t, .int .i64 lo, .int .i64 hi, .slice A ps.length c]] W fun e w' => ∃ A' c', e = .returned (.slice A' ps.length c') ∧ Sat W w' [row 3 1 (.slice A' ps.length c') ps.length (cartsOf ps)] := by
  refine enter Try.func21 rfl rfl rfl (.cons (i := 0) rfl .nil) ?_
  intro a hA
  have hS := Sat.start W
  refine wp_seq_k fun k1 hk1 => ?_
  refine wp_region_lit ?_
  refine goB hA rfl rfl hS ?_
  clear hA a hS; intro b1 w hS a hA
  refine go1 hA rfl rfl rfl (r_assign (hA.ev rfl)) ?_; clear hA a; intro a hA
  refine wpList_nil ?_
  refine hk1 _ _ ?_
  clear hk1 k1
  replace hA := hA.keep (.cons (i := 1) rfl (.cons (i := 2) rfl .nil))
  refine wp_seq_k fun k2 hk2 => ?_
  refine wp_region_lit ?_
  refine go1 hA rfl rfl rfl (r_field (hA.ev rfl) T.fo24_5) ?_; clear hA a; intro a hA
  refine go1 hA rfl rfl rfl (r_load (hA.ev rfl) T.fl22 (by first | exact hS.cell rfl | exact (hS.p 1).cell rfl | exact (hS.p 2).cell rfl)) ?_; clear hA a; intro a hA
  refine go1 hA rfl rfl rfl (r_lens (hA.ev rfl) T.un22) ?_; clear hA a; intro a hA
  refine goM hA rfl rfl rfl T.un32 T.el3 rfl (by omega) (by omega) hS ?_
  clear hA a hS; intro b9 w hS a hA
  refine go1 hA rfl rfl rfl (r_assign (hA.ev rfl)) ?_; clear hA a; intro a hA
  refine wpList_nil ?_
  refine hk2 _ _ ?_
  clear hk2 k2
  replace hA := hA.keep (.cons (i := 1) rfl (.cons (i := 2) rfl (.cons (i := 3) rfl .nil)))
  refine wp_seq_k fun k3 hk3 => ?_
  refine wp_seq_k fun k4 hk4 => ?_
  refine wp_region_lit ?_
  refine go1 hA rfl rfl rfl (r_field (hA.ev rfl) T.fo24_5) ?_; clear hA a; intro a hA
  refine go1 hA rfl rfl rfl (r_load (hA.ev rfl) T.fl22 (by first | exact hS.cell rfl | exact (hS.p 1).cell rfl | exact (hS.p 2).cell rfl)) ?_; clear hA a; intro a hA
  refine go1 hA rfl rfl rfl (r_lens (hA.ev rfl) T.un22) ?_; clear hA a; intro a hA
  refine go1 hA rfl rfl rfl (r_move (hA.ev rfl)) ?_; clear hA a; intro a hA
  refine wpList_nil ?_
  refine hk4 _ _ ?_
  clear hk4 k4
  replace hA := hA.keep (.cons (i := 2) rfl (.cons (i := 3) rfl (.cons (i := 11) rfl (.cons (i := 12) rfl (.cons (i := 13) rfl .nil)))))
  refine wp_block ?_
  refine wp_loop_ghost (fun (mm : Nat) a w => ∃ (i : Int) (zs : List Value), Ag a 25 [(3, .slice (some ⟨b9, 0, none⟩) ps.length ps.length), (11, .slice A ps.length c), (12, .int .i64 ps.length), (13, .int .i64 i)] ∧ Sat W w [pto b9 (.cells zs.toArray 3)] ∧ zs.length = ps.length ∧ (∀ (j : Nat) q, (j : Int) < i → ps[j]? = some q → zs[j]? = some (.int .i64 q.cart)) ∧ 0 ≤ i ∧ i ≤ ps.length ∧ mm = (ps.length - i).toNat) ps.length ?_ ?_
  · replace hA := hA.keep (.cons (i := 3) rfl (.cons (i := 11) rfl (.cons (i := 12) rfl (.cons (i := 13) rfl .nil))))
    exact ⟨0, _, hA, hS.pull1.drop, by simp, fun j q hj => by omega, by omega, by omega, by omega⟩
  intro m a w hI
  clear hS
  obtain ⟨i, zs, hA, hS, hzl, hG, hi0, hi1, rfl⟩ := hI
  refine wp_seq_k fun k5 hk5 => ?_
  refine wp_region_lit ?_
  refine go1s hA rfl rfl rfl (r_lss (hA.ev rfl) (hA.ev rfl)) ?_ ?_
  · clear hA a; intro h14 a hA
    obtain ⟨p0, rfl⟩ : ∃ p, A = some p := hR.hasAddr (by omega)
    obtain ⟨p, hp⟩ : ∃ p, ps[i.toNat]? = some p := ⟨_, List.getElem?_eq_getElem (by omega)⟩
    obtain ⟨u, hu⟩ : ∃ u, zs[i.toNat]? = some u := ⟨_, List.getElem?_eq_getElem (by omega)⟩
    refine wpList_nil ?_
    refine hk5 _ _ ?_
    clear hk5 k5
    refine wp_seq_k fun k6 hk6 => ?_
    refine wp_cond_true (hA.ev rfl) ?_
    refine wp_skip ?_
    refine hk6 _ _ ?_
    clear hk6 k6
    refine wp_seq_k fun k7 hk7 => ?_
    refine wp_block ?_
    refine wp_seq_k fun k8 hk8 => ?_
    refine wp_region_lit ?_
    refine go1 hA rfl rfl rfl (r_move (hA.ev rfl)) ?_; clear hA a; intro a hA
    refine go1 hA rfl rfl rfl (r_index (hA.ev rfl) (hA.ev rfl) T.un22 T.sz49 (by omega) (by omega)) ?_; clear hA a; intro a hA
    refine go1 hA rfl rfl rfl (r_loadS (cs := encP p) (hA.ev rfl) T.ag49 T.sz49 ((hR.sat hS).elem (part_at hp))) ?_; clear hA a; intro a hA
    refine goN hA rfl T.zv49 hS ?_
    clear hA a hS; intro b5 w hS a hA
    refine go1 hA rfl rfl rfl (r_assign (hA.ev rfl)) ?_; clear hA a; intro a hA
    refine goWS hA (vs := [_, _]) rfl rfl T.sz49 (by simp [Value.oneCell']) hS (by simp) ?_
    clear hS; intro w hS
    refine wpList_nil ?_
    refine hk8 _ _ ?_
    clear hk8 k8
    refine wp_region_lit ?_
    refine go1 hA rfl rfl rfl (r_move (hA.ev rfl)) ?_; clear hA a; intro a hA
    refine go1 hA rfl rfl rfl (r_move (hA.ev rfl)) ?_; clear hA a; intro a hA
    refine go1 hA rfl rfl rfl (r_field (hA.ev rfl) T.fo49_0) ?_; clear hA a; intro a hA
    refine go1 hA rfl rfl rfl (r_load (hA.ev rfl) T.fl3 (by first | exact hS.cell rfl | exact (hS.p 1).cell rfl | exact (hS.p 2).cell rfl)) ?_; clear hA a; intro a hA
    refine go1 hA rfl rfl rfl (r_index (hA.ev rfl) (hA.ev rfl) T.un32 T.sz3 (by omega) (by omega)) ?_; clear hA a; intro a hA
    refine goWX (j := i.toNat) hA rfl (by rw [add_lit, Nat.mul_one, Nat.zero_add]) rfl T.fl3 T.sz3 rfl hS.pull1 hu ?_
    clear hS; intro w hS
    refine wpList_nil ?_
    refine block_normal ?_
    refine hk7 _ _ ?_
    clear hk7 k7
    refine wp_region_lit ?_
    refine go1 hA rfl rfl rfl (r_add64 (hA.ev rfl) (hA.ev rfl) (by omega) (by omega)) ?_; clear hA a; intro a hA
    refine go1 hA rfl rfl rfl (r_move (hA.ev rfl)) ?_; clear hA a; intro a hA
    refine wpList_nil ?_
    replace hA := hA.keep (.cons (i := 3) rfl (.cons (i := 11) rfl (.cons (i := 12) rfl (.cons (i := 13) rfl .nil))))
    refine ⟨(ps.length - (i + 1)).toNat, by omega, i + 1, _, hA, hS.pull1.drop, by simpa using hzl, fun j q hj hq => ?_, by omega, by omega, rfl⟩
    by_cases hji : (j : Int) < i
    · rw [List.getElem?_set_ne (by omega)]; exact hG j q hji hq
    · obtain rfl : j = i.toNat := by omega
      rw [hp] at hq; cases hq
      exact List.getElem?_set_self (by omega)
  · clear hA a; intro h14 a hA
    refine wpList_nil ?_
    refine hk5 _ _ ?_
    clear hk5 k5
    refine wp_seq_k fun k9 hk9 => ?_
    refine wp_cond_false (hA.ev rfl) ?_
    refine wp_exit ?_
    refine then_exit ?_; clear hk9 k9
    refine then_exit ?_
    refine block_hit ?_
    refine hk3 _ _ ?_
    clear hk3 k3
    replace hA := hA.keep (.cons (i := 3) rfl .nil)
    refine wp_seq_k fun k10 hk10 => ?_
    refine wp_region_lit ?_
    refine go1 hA rfl rfl rfl (r_move (hA.ev rfl)) ?_; clear hA a; intro a hA
    refine go1 hA rfl rfl rfl (r_assign (hA.ev rfl)) ?_; clear hA a; intro a hA
    refine wpList_nil ?_
    refine hk10 _ _ ?_
    clear hk10 k10
    replace hA := hA.keep (.cons (i := 2) rfl .nil)
    refine wp_ret ?_
    refine end1 hA rfl rfl ?_
    have hz : zs = cartsOf ps := by
      refine List.ext_getElem? fun j => ?_
      unfold cartsOf
      rw [List.getElem?_map]
      cases hq : ps[j]? with
      | none => simp at hq; rw [List.getElem?_eq_none (by omega)]; rfl
      | some q => exact hG j q (by have := (List.getElem?_eq_some_iff.1 hq).1; omega) hq
    subst hz
    exact ⟨_, _, rfl, hS.toRow hzl (by omega)⟩
set_option maxRecDepth 100000 in
theorem EqualInts_calls (W : World) (A : Option Addr) (c : Nat) (xs : List Int) (A2 : Option Addr) (c2 : Nat) (ys : List Int) (hX : Rd W 1 (.slice A xs.length c) xs.length (xs.map (Value.int .i64))) (hY : Rd W 1 (.slice A2 ys.length c2) ys.length (ys.map (Value.int .i64))) (hx : xs.length ≤ 140737488355328) (hy : ys.length ≤ 140737488355328) : Calls Try.prog 20 #[.slice A xs.length c, .slice A2 ys.length c2] W fun e w' => e = .returned (.bool (decide (xs = ys))) ∧ Sat W w' [] := by
  refine enter Try.func20 rfl rfl rfl (.cons (i := 0) rfl (.cons (i := 1) rfl .nil)) ?_
  intro a hA
  have hS := Sat.start W
  refine wp_seq_k fun k1 hk1 => ?_
  refine wp_region_lit ?_
  refine go1 hA rfl rfl rfl (r_assign (hA.ev rfl)) ?_; clear hA a; intro a hA
  refine wpList_nil ?_
  refine hk1 _ _ ?_
  clear hk1 k1
  refine wp_seq_k fun k2 hk2 => ?_
  refine wp_seq_k fun k3 hk3 => ?_
  refine wp_region_lit ?_
  refine go1 hA rfl rfl rfl (r_move (hA.ev rfl)) ?_; clear hA a; intro a hA
  refine go1 hA rfl rfl rfl (r_lens (hA.ev rfl) T.un32) ?_; clear hA a; intro a hA
  refine go1 hA rfl rfl rfl (r_move (hA.ev rfl)) ?_; clear hA a; intro a hA
  refine go1 hA rfl rfl rfl (r_lens (hA.ev rfl) T.un32) ?_; clear hA a; intro a hA
  refine go1s hA rfl rfl rfl (r_neq (hA.ev rfl) (hA.ev rfl)) ?_ ?_
  · clear hA a; intro h10 a hA
    refine wpList_nil ?_
    refine hk3 _ _ ?_
    clear hk3 k3
    replace hA := hA.keep (.cons (i := 0) rfl (.cons (i := 1) rfl (.cons (i := 4) rfl (.cons (i := 10) rfl .nil))))
    refine wp_cond_true (hA.ev rfl) ?_
    refine wp_seq_k fun k4 hk4 => ?_
    refine wp_region_lit ?_
    refine go1 hA rfl rfl rfl (r_assign (hA.ev rfl)) ?_; clear hA a; intro a hA
    refine wpList_nil ?_
    refine hk4 _ _ ?_
    clear hk4 k4
    replace hA := hA.keep (.cons (i := 0) rfl (.cons (i := 1) rfl (.cons (i := 4) rfl .nil)))
    refine wp_ret ?_
    refine then_ret ?_; clear hk2 k2
    refine end1 hA rfl rfl ?_
    rw [show decide (xs = ys) = false from decide_eq_false (fun h => by subst h; omega)]
    exact ⟨rfl, hS⟩
  · clear hA a; intro h10 a hA
    refine wpList_nil ?_
    refine hk3 _ _ ?_
    clear hk3 k3
    replace hA := hA.keep (.cons (i := 0) rfl (.cons (i := 1) rfl (.cons (i := 4) rfl (.cons (i := 10) rfl .nil))))
    refine wp_cond_false (hA.ev rfl) ?_
    refine wp_skip ?_
    refine hk2 _ _ ?_
    clear hk2 k2
    replace hA := hA.keep (.cons (i := 0) rfl (.cons (i := 1) rfl (.cons (i := 4) rfl .nil)))
    refine wp_seq_k fun k5 hk5 => ?_
    refine wp_seq_k fun k6 hk6 => ?_
    refine wp_region_lit ?_
    refine go1 hA rfl rfl rfl (r_assign (hA.ev rfl)) ?_; clear hA a; intro a hA
    refine wpList_nil ?_
    refine hk6 _ _ ?_
    clear hk6 k6
    refine wp_block ?_
    refine wp_loop_ghost (fun (mm : Nat) a w => ∃ i : Int, Ag a 26 [(0, .slice A xs.length c), (1, .slice A2 ys.length c2), (5, .int .i64 i)] ∧ Sat W w [] ∧ 0 ≤ i ∧ i ≤ xs.length ∧ mm = (xs.length - i).toNat ∧ ∀ j : Nat, (j : Int) < i → xs[j]? = ys[j]?) xs.length ?_ ?_
    · replace hA := hA.keep (.cons (i := 0) rfl (.cons (i := 1) rfl (.cons (i := 5) rfl .nil)))
      exact ⟨0, hA, hS, by omega, by omega, by omega, fun j hj => by omega⟩
    intro m a w hI
    obtain ⟨i, hA, hS, hi0, hi1, rfl, hG⟩ := hI
    refine wp_seq_k fun k7 hk7 => ?_
    refine wp_seq_k fun k8 hk8 => ?_
    refine wp_region_lit ?_
    refine go1 hA rfl rfl rfl (r_move (hA.ev rfl)) ?_; clear hA a; intro a hA
    refine go1 hA rfl rfl rfl (r_move (hA.ev rfl)) ?_; clear hA a; intro a hA
    refine go1 hA rfl rfl rfl (r_lens (hA.ev rfl) T.un32) ?_; clear hA a; intro a hA
    refine go1s hA rfl rfl rfl (r_lss (hA.ev rfl) (hA.ev rfl)) ?_ ?_
    · clear hA a; intro h14 a hA
      obtain ⟨p0, rfl⟩ : ∃ p, A = some p := hX.hasAddr (by omega)
      obtain ⟨q0, rfl⟩ : ∃ p, A2 = some p := hY.hasAddr (by omega)
      obtain ⟨x, hxi⟩ : ∃ x, xs[i.toNat]? = some x := ⟨_, List.getElem?_eq_getElem (by omega)⟩
      obtain ⟨y, hyi⟩ : ∃ y, ys[i.toNat]? = some y := ⟨_, List.getElem?_eq_getElem (by omega)⟩
      refine wpList_nil ?_
      refine hk8 _ _ ?_
      clear hk8 k8
      refine wp_cond_true (hA.ev rfl) ?_
      refine wp_skip ?_
      refine hk7 _ _ ?_
      clear hk7 k7
      refine wp_seq_k fun k9 hk9 => ?_
      refine wp_block ?_
      refine wp_seq_k fun k10 hk10 => ?_
      refine qEnter (fun w' => Sat _ w' _) (by kernel_rfl) (by kernel_rfl) hS.drew ?_
      refine K.q1 hA rfl rfl rfl (fun w hS => (r_move (hA.ev rfl))) ?_; clear hA a; intro a hA
      refine K.q1 hA rfl rfl rfl (fun w hS => (r_move (hA.ev rfl))) ?_; clear hA a; intro a hA
      refine K.q1 hA rfl rfl rfl (fun w hS => (r_index (hA.ev rfl) (hA.ev rfl) T.un32 T.sz3 (by omega) (by omega))) ?_; clear hA a; intro a hA
      refine K.q1 hA rfl rfl rfl (fun w hS => (r_load (hA.ev rfl) T.fl3 ((hX.sat hS).cell (int_at hxi)))) ?_; clear hA a; intro a hA
      refine K.q1 hA rfl rfl rfl (fun w hS => (r_move (hA.ev rfl))) ?_; clear hA a; intro a hA
      refine K.q1 hA rfl rfl rfl (fun w hS => (r_move (hA.ev rfl))) ?_; clear hA a; intro a hA
      refine K.q1 hA rfl rfl rfl (fun w hS => (r_index (hA.ev rfl) (hA.ev rfl) T.un32 T.sz3 (by omega) (by omega))) ?_; clear hA a; intro a hA
      refine K.q1 hA rfl rfl rfl (fun w hS => (r_load (hA.ev rfl) T.fl3 ((hY.sat hS).cell (int_at hyi)))) ?_; clear hA a; intro a hA
      refine K.q1s hA rfl rfl rfl (fun w hS => (r_neq (hA.ev rfl) (hA.ev rfl))) ?_ ?_
      · clear hA a; intro h25 a hA
        refine wpQuiet_nil ?_
        clear hS; intro w hS
        refine hk10 _ _ ?_
        clear hk10 k10
        refine wp_cond_true (hA.ev rfl) ?_
        refine wp_seq_k fun k11 hk11 => ?_
        refine wp_region_lit ?_
        refine go1 hA rfl rfl rfl (r_assign (hA.ev rfl)) ?_; clear hA a; intro a hA
        refine wpList_nil ?_
        refine hk11 _ _ ?_
        clear hk11 k11
        refine wp_ret ?_
        refine block_ret ?_
        refine then_ret ?_; clear hk9 k9
        refine then_ret ?_
        refine block_ret ?_
        refine then_ret ?_; clear hk5 k5
        refine end1 hA rfl rfl ?_
        rw [show decide (xs = ys) = false from decide_eq_false (fun h => by subst h; rw [hxi] at hyi; cases hyi; omega)]
        exact ⟨rfl, hS⟩
      · clear hA a; intro h25 a hA
        refine wpQuiet_nil ?_
        clear hS; intro w hS
        refine hk10 _ _ ?_
        clear hk10 k10
        refine wp_cond_false (hA.ev rfl) ?_
        refine wp_skip ?_
        refine block_normal ?_
        refine hk9 _ _ ?_
        clear hk9 k9
        refine wp_region_lit ?_
        refine go1 hA rfl rfl rfl (r_move (hA.ev rfl)) ?_; clear hA a; intro a hA
        refine go1 hA rfl rfl rfl (r_add64 (hA.ev rfl) (hA.ev rfl) (by omega) (by omega)) ?_; clear hA a; intro a hA
        refine go1 hA rfl rfl rfl (r_assign (hA.ev rfl)) ?_; clear hA a; intro a hA
        refine wpList_nil ?_
        replace hA := hA.keep (.cons (i := 0) rfl (.cons (i := 1) rfl (.cons (i := 5) rfl .nil)))
        refine ⟨(xs.length - (i + 1)).toNat, by omega, i + 1, hA, hS, by omega, by omega, rfl, fun j hj => ?_⟩
        by_cases hji : (j : Int) < i
        · exact hG j hji
        · obtain rfl : j = i.toNat := by omega
          rw [hxi, hyi, show x = y from by omega]
    · clear hA a; intro h14 a hA
      refine wpList_nil ?_
      refine hk8 _ _ ?_
      clear hk8 k8
      refine wp_cond_false (hA.ev rfl) ?_
      refine wp_exit ?_
      refine then_exit ?_; clear hk7 k7
      refine then_exit ?_
      refine block_hit ?_
      refine hk5 _ _ ?_
      clear hk5 k5
      replace hA := hA.keep .nil
      refine wp_seq_k fun k12 hk12 => ?_
      refine wp_region_lit ?_
      refine go1 hA rfl rfl rfl (r_assign (hA.ev rfl)) ?_; clear hA a; intro a hA
      refine wpList_nil ?_
      refine hk12 _ _ ?_
      clear hk12 k12
      refine wp_ret ?_
      refine end1 hA rfl rfl ?_
      have hE : xs = ys := by
        refine List.ext_getElem? fun j => ?_
        by_cases hj : (j : Int) < i
        · exact hG j hj
        · rw [List.getElem?_eq_none (by omega), List.getElem?_eq_none (by omega)]
      rw [show decide (xs = ys) = true from decide_eq_true hE]
      exact ⟨rfl, hS⟩
end Go.Proofs.Ytfbdcllbgfohdaa.Wm
