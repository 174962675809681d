/- The walk of barrowlaw16.alike: three lists that say the same are alike. Conditions: at most a million items. -/
import Derived.Test.YtmooogahfkgljaaK26
import Derived.Test.YtmooogahfkgljaaT
import Derived.Test.YtmooogahfkgljaaWkName
set_option linter.unusedVariables false
set_option linter.unusedSimpArgs false
namespace Go.Proofs.Ytmooogahfkgljaa.Wk
open Go Go.RowKit Go.Proofs.Ytmooogahfkgljaa Go.Proofs.Ytmooogahfkgljaa.K
def encS (x : Int) : Value := .string (nm x)
def encP (x : Int) : List Value := [.int .i64 x, .string (nm x)]
theorem encP_at {xs : List Int} {i : Nat} {x : Int} (h : xs[i]? = some x) : ∀ j u, (encP x)[j]? = some u → (xs.flatMap encP)[i * 2 + j]? = some u :=
  flat_at encP 2 (fun _ => rfl) xs _ x h
set_option maxRecDepth 100000 in
set_option maxHeartbeats 1000000 in
theorem alike_calls (W : World) (xs : List Int) (A1 A2 A3 : Option Addr) (c1 c2 c3 : Nat) (hR1 : Rd W 1 (.slice A1 xs.length c1) xs.length (xs.map (Value.int .i64))) (hR2 : Rd W 1 (.slice A2 xs.length c2) xs.length (xs.map encS)) (hR3 : Rd W 2 (.slice A3 xs.length c3) xs.length (xs.flatMap encP)) (hn : xs.length ≤ 1000000) : Calls Try.prog 37 #[.slice A1 xs.length c1, .slice A2 xs.length c2, .slice A3 xs.length c3] W fun e w' => e = .returned (.bool true) ∧ Sat W w' [] := by
  refine enter Try.func37 rfl rfl rfl (.cons (i := 0) rfl (.cons (i := 1) rfl (.cons (i := 2) rfl .nil))) ?_
  intro a hA
  have hS := Sat.start W
  refine wp_seq_k fun k1 hk1 => ?_
  refine wp_region_lit ?_
  refine go1 hA rfl rfl rfl (r_assign (hA.ev rfl)) ?_; clear hA a; intro a hA
  refine wpList_nil ?_
  refine hk1 _ _ ?_
  clear hk1 k1
  refine wp_seq_k fun k2 hk2 => ?_
  refine wp_seq_k fun k3 hk3 => ?_
  refine wp_region_lit ?_
  refine go1 hA rfl rfl rfl (r_move (hA.ev rfl)) ?_; clear hA a; intro a hA
  refine go1 hA rfl rfl rfl (r_lens (hA.ev rfl) T.un57) ?_; clear hA a; intro a hA
  refine go1 hA rfl rfl rfl (r_move (hA.ev rfl)) ?_; clear hA a; intro a hA
  refine go1 hA rfl rfl rfl (r_lens (hA.ev rfl) T.un54) ?_; clear hA a; intro a hA
  refine go1 hA rfl rfl rfl (as_f (r_neq (hA.ev rfl) (hA.ev rfl)) (by omega)) ?_; clear hA a; intro a hA
  refine go1 hA rfl rfl rfl (r_move (hA.ev rfl)) ?_; clear hA a; intro a hA
  refine go1y hA (wanted_yes hA rfl rfl rfl) rfl rfl (r_move (hA.ev rfl)) ?_; clear hA a; intro a hA
  refine go1y hA (wanted_yes hA rfl rfl rfl) rfl rfl (r_lens (hA.ev rfl) T.un60) ?_; clear hA a; intro a hA
  refine go1y hA (wanted_yes hA rfl rfl rfl) rfl rfl (r_move (hA.ev rfl)) ?_; clear hA a; intro a hA
  refine go1y hA (wanted_yes hA rfl rfl rfl) rfl rfl (r_lens (hA.ev rfl) T.un54) ?_; clear hA a; intro a hA
  refine go1y hA (wanted_yes hA rfl rfl rfl) rfl rfl (as_f (r_neq (hA.ev rfl) (hA.ev rfl)) (by omega)) ?_; clear hA a; intro a hA
  refine go1 hA rfl rfl rfl (r_pick_f (hA.ev rfl) (hA.ev rfl)) ?_; clear hA a; intro a hA
  refine wpList_nil ?_
  refine hk3 _ _ ?_
  clear hk3 k3
  replace hA := hA.keep (.cons (i := 0) rfl (.cons (i := 1) rfl (.cons (i := 2) rfl (.cons (i := 6) rfl (.cons (i := 19) rfl .nil)))))
  refine wp_cond_false (hA.ev rfl) ?_
  refine wp_skip ?_
  refine hk2 _ _ ?_
  clear hk2 k2
  replace hA := hA.keep (.cons (i := 0) rfl (.cons (i := 1) rfl (.cons (i := 2) rfl (.cons (i := 6) rfl .nil))))
  refine wp_seq_k fun k4 hk4 => ?_
  refine wp_seq_k fun k5 hk5 => ?_
  refine wp_region_lit ?_
  refine go1 hA rfl rfl rfl (r_assign (hA.ev rfl)) ?_; clear hA a; intro a hA
  refine wpList_nil ?_
  refine hk5 _ _ ?_
  clear hk5 k5
  refine wp_block ?_
  refine wp_loop_ghost (fun (mm : Nat) a w => ∃ (i : Int), Ag a Try.f37.ntmps [(0, .slice A1 xs.length c1), (1, .slice A2 xs.length c2), (2, .slice A3 xs.length c3), (7, .int .i64 i)] ∧ Sat W w [] ∧ 0 ≤ i ∧ i ≤ xs.length ∧ mm = (xs.length - i).toNat) xs.length ?_ ?_
  · replace hA := hA.keep (.cons (i := 0) rfl (.cons (i := 1) rfl (.cons (i := 2) rfl (.cons (i := 7) rfl .nil))))
    exact ⟨0, hA, hS, by omega, by omega, by omega⟩
  intro m a w hI
  clear hS; obtain ⟨i, hA, hS, hi0, hi1, rfl⟩ := hI
  refine wp_seq_k fun k6 hk6 => ?_
  refine wp_seq_k fun k7 hk7 => ?_
  refine wp_region_lit ?_
  refine go1 hA rfl rfl rfl (r_move (hA.ev rfl)) ?_; clear hA a; intro a hA
  refine go1 hA rfl rfl rfl (r_move (hA.ev rfl)) ?_; clear hA a; intro a hA
  refine go1 hA rfl rfl rfl (r_lens (hA.ev rfl) T.un54) ?_; clear hA a; intro a hA
  refine go1s hA rfl rfl rfl (r_lss (hA.ev rfl) (hA.ev rfl)) ?_ ?_
  · clear hA a; intro h23 a hA
    try (first | contradiction | (exfalso; omega) | (exfalso; simp at h23; done))
    all_goals
     skip
     refine wpList_nil ?_
     refine hk7 _ _ ?_
     clear hk7 k7
     refine wp_cond_true (hA.ev rfl) ?_
     refine wp_skip ?_
     refine hk6 _ _ ?_
     clear hk6 k6
     refine wp_seq_k fun k8 hk8 => ?_
     refine wp_block ?_
     refine wp_seq_k fun k9 hk9 => ?_
     refine xEnterE [] hS (by kernel_rfl) ?_
     replace hS := hS.drew
     refine K.p1 0 hA (pok_then (pok_block (pok_then (pok_then (pok_block (pok_then pok_body)))))) rfl rfl rfl rfl (by kernel_rfl) (by kernel_rfl) (by kernel_rfl) (fun w => (r_move (hA.ev rfl))) ?_; clear hA a; intro a hA
     refine K.p1 1 hA (pok_then (pok_block (pok_then (pok_then (pok_block (pok_then pok_body)))))) rfl rfl rfl rfl (by kernel_rfl) (by kernel_rfl) (by kernel_rfl) (fun w => (r_move (hA.ev rfl))) ?_; clear hA a; intro a hA
     obtain ⟨A2_p, rfl⟩ : ∃ q, A2 = some q := (hR2.sat hS).hasAddr (by omega)
     obtain ⟨y, hy⟩ : ∃ x, xs[i.toNat]? = some x := ⟨_, List.getElem?_eq_getElem (by omega)⟩
     refine K.p1 2 hA (pok_then (pok_block (pok_then (pok_then (pok_block (pok_then pok_body)))))) rfl rfl rfl rfl (by kernel_rfl) (by kernel_rfl) (by kernel_rfl) (fun w => (r_index (hA.ev rfl) (hA.ev rfl) T.un57 T.sz9 (by omega) (by omega))) ?_; clear hA a; intro a hA
     refine K.x1 3 hA (pok_then (pok_block (pok_then (pok_then (pok_block (pok_then pok_body)))))) rfl rfl rfl rfl (by kernel_rfl) (by kernel_rfl) (by kernel_rfl) (by kernel_rfl) (by kernel_rfl) (by first | exact ⟨[], hS⟩ | exact ⟨[_], hS⟩ | exact ⟨[_, _], hS⟩ | exact ⟨[_, _, _], hS⟩ | exact ⟨[_, _, _, _], hS⟩ | exact ⟨[_, _, _, _, _], hS⟩ | exact ⟨[_, _, _, _, _, _], hS⟩) (fun w hT => have hS := hT.sat; (r_load (hA.ev rfl) T.fl9 (rdl (hR2.sat hS) (map_at hy)))) ?_; clear hA a; intro a hA
     refine K.p1 4 hA (pok_then (pok_block (pok_then (pok_then (pok_block (pok_then pok_body)))))) rfl rfl rfl rfl (by kernel_rfl) (by kernel_rfl) (by kernel_rfl) (fun w => (r_move (hA.ev rfl))) ?_; clear hA a; intro a hA
     refine K.p1 5 hA (pok_then (pok_block (pok_then (pok_then (pok_block (pok_then pok_body)))))) rfl rfl rfl rfl (by kernel_rfl) (by kernel_rfl) (by kernel_rfl) (fun w => (r_move (hA.ev rfl))) ?_; clear hA a; intro a hA
     obtain ⟨A1_p, rfl⟩ : ∃ q, A1 = some q := (hR1.sat hS).hasAddr (by omega)
     refine K.p1 6 hA (pok_then (pok_block (pok_then (pok_then (pok_block (pok_then pok_body)))))) rfl rfl rfl rfl (by kernel_rfl) (by kernel_rfl) (by kernel_rfl) (fun w => (r_index (hA.ev rfl) (hA.ev rfl) T.un54 T.sz3 (by omega) (by omega))) ?_; clear hA a; intro a hA
     refine K.x1 7 hA (pok_then (pok_block (pok_then (pok_then (pok_block (pok_then pok_body)))))) rfl rfl rfl rfl (by kernel_rfl) (by kernel_rfl) (by kernel_rfl) (by kernel_rfl) (by kernel_rfl) (by first | exact ⟨[], hS⟩ | exact ⟨[_], hS⟩ | exact ⟨[_, _], hS⟩ | exact ⟨[_, _, _], hS⟩ | exact ⟨[_, _, _, _], hS⟩ | exact ⟨[_, _, _, _, _], hS⟩ | exact ⟨[_, _, _, _, _, _], hS⟩) (fun w hT => have hS := hT.sat; (r_load (hA.ev rfl) T.fl3 (rdl (hR1.sat hS) (map_at hy)))) ?_; clear hA a; intro a hA
     refine xOne 8 (by kernel_rfl) ?_
     refine eF hA rfl rfl T.en26 rfl (name_calls _ _) ?_
     clear hA a; rintro e w ⟨rfl, hT⟩; replace hS : Sat _ _ _ := hS.rebase hT; clear hT
     refine ⟨_, rfl, ?_⟩; intro a hA
     refine ⟨.inr fun _ => (by first | exact ⟨[], hS⟩ | exact ⟨[_], hS⟩ | exact ⟨[_, _], hS⟩ | exact ⟨[_, _, _], hS⟩ | exact ⟨[_, _, _, _], hS⟩ | exact ⟨[_, _, _, _, _], hS⟩ | exact ⟨[_, _, _, _, _, _], hS⟩), ?_⟩
     refine K.p1 9 hA (pok_then (pok_block (pok_then (pok_then (pok_block (pok_then pok_body)))))) rfl rfl rfl rfl (by kernel_rfl) (by kernel_rfl) (by kernel_rfl) (fun w => (as_f (r_nesl (hA.ev rfl) (hA.ev rfl)) (by simp))) ?_; clear hA a; intro a hA
     refine K.p1 10 hA (pok_then (pok_block (pok_then (pok_then (pok_block (pok_then pok_body)))))) rfl rfl rfl rfl (by kernel_rfl) (by kernel_rfl) (by kernel_rfl) (fun w => (r_move (hA.ev rfl))) ?_; clear hA a; intro a hA
     refine K.p1y 11 hA (pok_then (pok_block (pok_then (pok_then (pok_block (pok_then pok_body)))))) rfl (wanted_yes hA rfl rfl rfl) rfl rfl (by kernel_rfl) (by kernel_rfl) (by kernel_rfl) (fun w => (r_move (hA.ev rfl))) ?_; clear hA a; intro a hA
     refine K.p1y 12 hA (pok_then (pok_block (pok_then (pok_then (pok_block (pok_then pok_body)))))) rfl (wanted_yes hA rfl rfl rfl) rfl rfl (by kernel_rfl) (by kernel_rfl) (by kernel_rfl) (fun w => (r_move (hA.ev rfl))) ?_; clear hA a; intro a hA
     obtain ⟨A3_p, rfl⟩ : ∃ q, A3 = some q := (hR3.sat hS).hasAddr (by omega)
     refine K.p1y 13 hA (pok_then (pok_block (pok_then (pok_then (pok_block (pok_then pok_body)))))) rfl (wanted_yes hA rfl rfl rfl) rfl rfl (by kernel_rfl) (by kernel_rfl) (by kernel_rfl) (fun w => (r_index (hA.ev rfl) (hA.ev rfl) T.un60 T.sz42 (by omega) (by omega))) ?_; clear hA a; intro a hA
     refine K.x1y 14 hA (pok_then (pok_block (pok_then (pok_then (pok_block (pok_then pok_body)))))) rfl (wanted_yes hA rfl rfl rfl) rfl rfl (by kernel_rfl) (by kernel_rfl) (by kernel_rfl) (by kernel_rfl) (by kernel_rfl) (by first | exact ⟨[], hS⟩ | exact ⟨[_], hS⟩ | exact ⟨[_, _], hS⟩ | exact ⟨[_, _, _], hS⟩ | exact ⟨[_, _, _, _], hS⟩ | exact ⟨[_, _, _, _, _], hS⟩ | exact ⟨[_, _, _, _, _, _], hS⟩) (fun w hT => have hS := hT.sat; (r_loadS (cs := encP y) (hA.ev rfl) T.ag42 T.sz42 (fun j u e => rdl2 (hR3.sat hS) (encP_at hy j u e)))) ?_; clear hA a; intro a hA
     refine K.p1y 15 hA (pok_then (pok_block (pok_then (pok_then (pok_block (pok_then pok_body)))))) rfl (wanted_yes hA rfl rfl rfl) rfl rfl (by kernel_rfl) (by kernel_rfl) (by kernel_rfl) (fun w => (r_move (hA.ev rfl))) ?_; clear hA a; intro a hA
     refine K.p1y 16 hA (pok_then (pok_block (pok_then (pok_then (pok_block (pok_then pok_body)))))) rfl (wanted_yes hA rfl rfl rfl) rfl rfl (by kernel_rfl) (by kernel_rfl) (by kernel_rfl) (fun w => (r_move (hA.ev rfl))) ?_; clear hA a; intro a hA
     refine K.p1y 17 hA (pok_then (pok_block (pok_then (pok_then (pok_block (pok_then pok_body)))))) rfl (wanted_yes hA rfl rfl rfl) rfl rfl (by kernel_rfl) (by kernel_rfl) (by kernel_rfl) (fun w => (r_index (hA.ev rfl) (hA.ev rfl) T.un54 T.sz3 (by omega) (by omega))) ?_; clear hA a; intro a hA
     refine K.x1y 18 hA (pok_then (pok_block (pok_then (pok_then (pok_block (pok_then pok_body)))))) rfl (wanted_yes hA rfl rfl rfl) rfl rfl (by kernel_rfl) (by kernel_rfl) (by kernel_rfl) (by kernel_rfl) (by kernel_rfl) (by first | exact ⟨[], hS⟩ | exact ⟨[_], hS⟩ | exact ⟨[_, _], hS⟩ | exact ⟨[_, _, _], hS⟩ | exact ⟨[_, _, _, _], hS⟩ | exact ⟨[_, _, _, _, _], hS⟩ | exact ⟨[_, _, _, _, _, _], hS⟩) (fun w hT => have hS := hT.sat; (r_load (hA.ev rfl) T.fl3 (rdl (hR1.sat hS) (map_at hy)))) ?_; clear hA a; intro a hA
     refine K.p1y 19 hA (pok_then (pok_block (pok_then (pok_then (pok_block (pok_then pok_body)))))) rfl (wanted_yes hA rfl rfl rfl) rfl rfl (by kernel_rfl) (by kernel_rfl) (by kernel_rfl) (fun w => (r_move (hA.ev rfl))) ?_; clear hA a; intro a hA
     refine K.p1y 20 hA (pok_then (pok_block (pok_then (pok_then (pok_block (pok_then pok_body)))))) rfl (wanted_yes hA rfl rfl rfl) rfl rfl (by kernel_rfl) (by kernel_rfl) (by kernel_rfl) (fun w => (r_move (hA.ev rfl))) ?_; clear hA a; intro a hA
     refine K.p1y 21 hA (pok_then (pok_block (pok_then (pok_then (pok_block (pok_then pok_body)))))) rfl (wanted_yes hA rfl rfl rfl) rfl rfl (by kernel_rfl) (by kernel_rfl) (by kernel_rfl) (fun w => (r_index (hA.ev rfl) (hA.ev rfl) T.un54 T.sz3 (by omega) (by omega))) ?_; clear hA a; intro a hA
     refine K.x1y 22 hA (pok_then (pok_block (pok_then (pok_then (pok_block (pok_then pok_body)))))) rfl (wanted_yes hA rfl rfl rfl) rfl rfl (by kernel_rfl) (by kernel_rfl) (by kernel_rfl) (by kernel_rfl) (by kernel_rfl) (by first | exact ⟨[], hS⟩ | exact ⟨[_], hS⟩ | exact ⟨[_, _], hS⟩ | exact ⟨[_, _, _], hS⟩ | exact ⟨[_, _, _, _], hS⟩ | exact ⟨[_, _, _, _, _], hS⟩ | exact ⟨[_, _, _, _, _, _], hS⟩) (fun w hT => have hS := hT.sat; (r_load (hA.ev rfl) T.fl3 (rdl (hR1.sat hS) (map_at hy)))) ?_; clear hA a; intro a hA
     refine xOne 23 (by kernel_rfl) ?_
     refine eFy hA rfl (wanted_yes hA rfl rfl rfl) rfl T.en26 rfl (name_calls _ _) ?_
     clear hA a; rintro e w ⟨rfl, hT⟩; replace hS : Sat _ _ _ := hS.rebase hT; clear hT
     refine ⟨_, rfl, ?_⟩; intro a hA
     refine ⟨.inr fun _ => (by first | exact ⟨[], hS⟩ | exact ⟨[_], hS⟩ | exact ⟨[_, _], hS⟩ | exact ⟨[_, _, _], hS⟩ | exact ⟨[_, _, _, _], hS⟩ | exact ⟨[_, _, _, _, _], hS⟩ | exact ⟨[_, _, _, _, _, _], hS⟩), ?_⟩
     refine K.p1y 24 hA (pok_then (pok_block (pok_then (pok_then (pok_block (pok_then pok_body)))))) rfl (wanted_yes hA rfl rfl rfl) rfl rfl (by kernel_rfl) (by kernel_rfl) (by kernel_rfl) (fun w => (r_build hA rfl T.bd42_0_1)) ?_; clear hA a; intro a hA
     refine K.p1y 25 hA (pok_then (pok_block (pok_then (pok_then (pok_block (pok_then pok_body)))))) rfl (wanted_yes hA rfl rfl rfl) rfl rfl (by kernel_rfl) (by kernel_rfl) (by kernel_rfl) (fun w => (as_f (r_neagg (hA.ev rfl) (hA.ev rfl) T.eg42 T.eq42) (by simp))) ?_; clear hA a; intro a hA
     refine K.p1 26 hA (pok_then (pok_block (pok_then (pok_then (pok_block (pok_then pok_body)))))) rfl rfl rfl rfl (by kernel_rfl) (by kernel_rfl) (by kernel_rfl) (fun w => (r_pick_f (hA.ev rfl) (hA.ev rfl))) ?_; clear hA a; intro a hA
     refine wpAnyX_done (by kernel_rfl) ?_ _
     refine hk9 _ _ ?_
     clear hk9 k9
     refine wp_cond_false (hA.ev rfl) ?_
     refine wp_skip ?_
     refine block_normal ?_
     refine hk8 _ _ ?_
     clear hk8 k8
     refine wp_region_lit ?_
     refine go1 hA rfl rfl rfl (r_move (hA.ev rfl)) ?_; clear hA a; intro a hA
     refine go1 hA rfl rfl rfl (r_add64 (hA.ev rfl) (hA.ev rfl) (by omega) (by omega)) ?_; clear hA a; intro a hA
     refine go1 hA rfl rfl rfl (r_assign (hA.ev rfl)) ?_; clear hA a; intro a hA
     refine wpList_nil ?_
     replace hA := hA.keep (.cons (i := 0) rfl (.cons (i := 1) rfl (.cons (i := 2) rfl (.cons (i := 7) rfl .nil))))
     exact ⟨(xs.length - (i + 1)).toNat, by omega, _, hA, hS, by omega, by omega, rfl⟩
  · clear hA a; intro h23 a hA
    try (first | contradiction | (exfalso; omega) | (exfalso; simp at h23; done))
    all_goals
     skip
     refine wpList_nil ?_
     refine hk7 _ _ ?_
     clear hk7 k7
     refine wp_cond_false (hA.ev rfl) ?_
     refine wp_exit ?_
     refine then_exit ?_; clear hk6 k6
     refine then_exit ?_
     refine block_hit ?_
     refine hk4 _ _ ?_
     clear hk4 k4
     replace hA := hA.keep .nil
     refine wp_seq_k fun k10 hk10 => ?_
     refine wp_region_lit ?_
     refine go1 hA rfl rfl rfl (r_assign (hA.ev rfl)) ?_; clear hA a; intro a hA
     refine wpList_nil ?_
     refine hk10 _ _ ?_
     clear hk10 k10
     refine wp_ret ?_
     refine end1 hA rfl rfl ?_
     exact ⟨rfl, hS⟩
end Go.Proofs.Ytmooogahfkgljaa.Wk
