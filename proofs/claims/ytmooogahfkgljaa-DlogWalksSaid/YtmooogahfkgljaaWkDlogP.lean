/- The walks of dlog.Log's methods over structs: each does to the log what its contract says. Conditions: the numbers stay below 2 to the 63, at most a million items. -/
import Derived.Test.YtmooogahfkgljaaT
import Derived.Test.YtmooogahfkgljaaWkDlog
set_option linter.unusedVariables false
set_option linter.unusedSimpArgs false
namespace Go.Proofs.Ytmooogahfkgljaa.Wk
open Go Go.RowKit Go.Proofs.Ytmooogahfkgljaa Go.Proofs.Ytmooogahfkgljaa.K
theorem two_at {w : World} {n c k : Nat} {p : Addr} {cs : List Value} {u v : Value} (hR : Rd w 2 (.slice (some p) n c) n cs) (hu : cs[k * 2]? = some u) (hv : cs[k * 2 + 1]? = some v) : ∀ j x, [u, v][j]? = some x → w.cell? ((p.add (k * 2)).add j) = some x := by
  intro j x h
  match j, h with
  | 0, h => obtain rfl : u = x := by simpa using h
            exact rdl2 hR (by simpa using hu)
  | 1, h => obtain rfl : v = x := by simpa using h
            exact rdl2 hR hv
  | j + 2, h => simp at h
set_option maxRecDepth 100000 in
theorem PairClone_calls (W : World) (A : Option Addr) (n c : Nat) (cs : List Value)  (hR : Rd W 2 (.slice A n c) n cs) (h1 : ∀ u ∈ cs, u.oneCell' = true) (hn : n ≤ 1000000) : Calls Try.prog 64 #[.slice A n c] W fun e w' => ∃ A' c', e = .returned (.slice A' n c') ∧ n ≤ c' ∧ Sat W w' [row 42 2 (.slice A' n c') n cs] := by
  refine enter Try.func64 rfl rfl rfl (.cons (i := 0) rfl .nil) ?_
  intro a hA
  have hS := Sat.start W
  refine wp_seq_k fun k1 hk1 => ?_
  refine wp_region_lit ?_
  refine go1 hA rfl rfl rfl (r_assign (hA.ev rfl)) ?_; clear hA a; intro a hA
  refine wpList_nil ?_
  refine hk1 _ _ ?_
  clear hk1 k1
  refine wp_seq_k fun k2 hk2 => ?_
  refine wp_seq_k fun k3 hk3 => ?_
  refine wp_region_lit ?_
  refine go1 hA rfl rfl rfl (r_move (hA.ev rfl)) ?_; clear hA a; intro a hA
  refine go1b hA rfl rfl rfl (r_eqsn (hA.ev rfl) (hA.ev rfl) T.un60) ?_ ?_
  · clear hA a; intro h4 a hA
    refine wpList_nil ?_
    refine hk3 _ _ ?_
    clear hk3 k3
    replace hA := hA.keep (.cons (i := 0) rfl (.cons (i := 2) rfl (.cons (i := 4) rfl .nil)))
    refine wp_cond_true (hA.ev rfl) ?_
    refine wp_seq_k fun k4 hk4 => ?_
    refine wp_region_lit ?_
    refine go1 hA rfl rfl rfl (r_assign (hA.ev rfl)) ?_; clear hA a; intro a hA
    refine wpList_nil ?_
    refine hk4 _ _ ?_
    clear hk4 k4
    replace hA := hA.keep (.cons (i := 0) rfl (.cons (i := 2) rfl .nil))
    refine wp_ret ?_
    refine then_ret ?_; clear hk2 k2
    refine end1 hA rfl rfl ?_
    obtain rfl : A = none := by simpa using h4
    obtain ⟨rfl, rfl⟩ := hR.nil
    exact ⟨none, 0, rfl, Nat.le_refl _, hS.row_nil _ _⟩
  · clear hA a; intro h4 a hA
    refine wpList_nil ?_
    refine hk3 _ _ ?_
    clear hk3 k3
    replace hA := hA.keep (.cons (i := 0) rfl (.cons (i := 2) rfl (.cons (i := 4) rfl .nil)))
    refine wp_cond_false (hA.ev rfl) ?_
    refine wp_skip ?_
    refine hk2 _ _ ?_
    clear hk2 k2
    replace hA := hA.keep (.cons (i := 0) rfl (.cons (i := 2) rfl .nil))
    refine wp_seq_k fun k5 hk5 => ?_
    refine wp_region_lit ?_
    refine goL0 hA rfl T.un60 T.el42 hS ?_
    clear hA a hS; intro A5 w hS a hA
    refine go1 hA rfl rfl rfl (r_move (hA.ev rfl)) ?_; clear hA a; intro a hA
    refine goA' hA rfl rfl rfl T.un60 T.el42 rfl hS ((hR.sat hS).src T.un60 h1) (by omega) (by omega) ?_
    clear hA a hS; intro A7 c7 w hc7 hS a hA
    refine go1 hA rfl rfl rfl (r_assign (hA.ev rfl)) ?_; clear hA a; intro a hA
    refine wpList_nil ?_
    refine hk5 _ _ ?_
    clear hk5 k5
    replace hA := hA.keep (.cons (i := 2) rfl .nil)
    refine wp_ret ?_
    refine end1 hA rfl rfl ?_
    simp only [Nat.zero_add, List.nil_append] at hS hc7 ⊢
    exact ⟨_, _, rfl, hc7, hS⟩
set_option maxRecDepth 100000 in
theorem PairFirst_calls (l : Nat) (m f : Int) (A : Option Addr) (n c : Nat) (W w : World) (L : List As) (hS : Sat W w (pto l (.cells #[.int .i64 m, .int .i64 f, .slice A n c] 108) :: L))  : Calls Try.prog 40 #[.pointer (some ⟨l, 0, none⟩)] w fun e w' => e = .returned (.int .i64 f) ∧ Sat W w' (pto l (.cells #[.int .i64 m, .int .i64 f, .slice A n c] 108) :: L) := by
  refine enter Try.func40 rfl rfl rfl (.cons (i := 0) rfl .nil) ?_
  intro a hA
  refine wp_seq_k fun k1 hk1 => ?_
  refine wp_region_lit ?_
  refine go1 hA rfl rfl rfl (r_assign (hA.ev rfl)) ?_; clear hA a; intro a hA
  refine wpList_nil ?_
  refine hk1 _ _ ?_
  clear hk1 k1
  refine wp_seq_k fun k2 hk2 => ?_
  refine wp_region_lit ?_
  refine go1 hA rfl rfl rfl (r_move (hA.ev rfl)) ?_; clear hA a; intro a hA
  refine go1 hA rfl rfl rfl (r_nil (hA.ev rfl)) ?_; clear hA a; intro a hA
  refine go1 hA rfl rfl rfl (r_field (hA.ev rfl) T.fo108_1) ?_; clear hA a; intro a hA
  refine go1 hA rfl rfl rfl (r_load (hA.ev rfl) T.fl3 (by first | exact hS.cell rfl)) ?_; clear hA a; intro a hA
  refine go1 hA rfl rfl rfl (r_assign (hA.ev rfl)) ?_; clear hA a; intro a hA
  refine wpList_nil ?_
  refine hk2 _ _ ?_
  clear hk2 k2
  replace hA := hA.keep (.cons (i := 2) rfl .nil)
  refine wp_ret ?_
  refine end1 hA rfl rfl ?_
  exact ⟨rfl, hS⟩
set_option maxRecDepth 100000 in
theorem PairNext_calls (l : Nat) (m f : Int) (A : Option Addr) (n c : Nat) (W w : World) (L : List As) (hS : Sat W w (pto l (.cells #[.int .i64 m, .int .i64 f, .slice A n c] 108) :: L)) (h0 : 0 ≤ f) (h1 : f + n ≤ 9223372036854775807) : Calls Try.prog 43 #[.pointer (some ⟨l, 0, none⟩)] w fun e w' => e = .returned (.int .i64 (f + n)) ∧ Sat W w' (pto l (.cells #[.int .i64 m, .int .i64 f, .slice A n c] 108) :: L) := by
  refine enter Try.func43 rfl rfl rfl (.cons (i := 0) rfl .nil) ?_
  intro a hA
  refine wp_seq_k fun k1 hk1 => ?_
  refine wp_region_lit ?_
  refine go1 hA rfl rfl rfl (r_assign (hA.ev rfl)) ?_; clear hA a; intro a hA
  refine wpList_nil ?_
  refine hk1 _ _ ?_
  clear hk1 k1
  refine wp_seq_k fun k2 hk2 => ?_
  refine qEnter (fun w' => Sat _ w' _) (by kernel_rfl) (by kernel_rfl) hS.drew ?_
  refine K.q1 hA rfl rfl rfl (fun w hS => (r_move (hA.ev rfl))) ?_; clear hA a; intro a hA
  refine K.q1 hA rfl rfl rfl (fun w hS => (r_nil (hA.ev rfl))) ?_; clear hA a; intro a hA
  refine K.q1 hA rfl rfl rfl (fun w hS => (r_field (hA.ev rfl) T.fo108_1)) ?_; clear hA a; intro a hA
  refine K.q1 hA rfl rfl rfl (fun w hS => (r_load (hA.ev rfl) T.fl3 (by first | exact hS.cell rfl))) ?_; clear hA a; intro a hA
  refine K.q1 hA rfl rfl rfl (fun w hS => (r_move (hA.ev rfl))) ?_; clear hA a; intro a hA
  refine K.q1 hA rfl rfl rfl (fun w hS => (r_nil (hA.ev rfl))) ?_; clear hA a; intro a hA
  refine K.q1 hA rfl rfl rfl (fun w hS => (r_field (hA.ev rfl) T.fo108_2)) ?_; clear hA a; intro a hA
  refine K.q1 hA rfl rfl rfl (fun w hS => (r_load (hA.ev rfl) T.fl60 (by first | exact hS.cell rfl))) ?_; clear hA a; intro a hA
  refine K.q1 hA rfl rfl rfl (fun w hS => (r_lens (hA.ev rfl) T.un60)) ?_; clear hA a; intro a hA
  refine K.q1 hA rfl rfl rfl (fun w hS => (r_add64 (hA.ev rfl) (hA.ev rfl) (by omega) (by omega))) ?_; clear hA a; intro a hA
  refine K.q1 hA rfl rfl rfl (fun w hS => (r_assign (hA.ev rfl))) ?_; clear hA a; intro a hA
  refine wpQuiet_nil ?_
  clear hS; intro w hS
  refine hk2 _ _ ?_
  clear hk2 k2
  replace hA := hA.keep (.cons (i := 2) rfl .nil)
  refine wp_ret ?_
  refine end1 hA rfl rfl ?_
  exact ⟨rfl, hS⟩
set_option maxRecDepth 100000 in
theorem PairDrop_calls (l : Nat) (m f : Int) (A : Option Addr) (n c : Nat) (cs : List Value) (k : Int) (W w : World) (L : List As) (hS : Sat W w (pto l (.cells #[.int .i64 m, .int .i64 f, .slice A n c] 108) :: row 42 2 (.slice A n c) n cs :: L)) (h0 : 0 ≤ f) (h1 : f + n ≤ 9223372036854775800) (hn : n ≤ 1000000) (hone : ∀ u ∈ cs, u.oneCell' = true) (hk : 0 ≤ k) (hk2 : k ≤ n) : Calls Try.prog 62 #[.pointer (some ⟨l, 0, none⟩), .int .i64 k] w fun e w' => e = .returned (.tuple #[]) ∧ ∃ A' c', Sat W w' (pto l (.cells #[.int .i64 m, .int .i64 (f + k), .slice A' (n - k.toNat) c'] 108) :: row 42 2 (.slice A' (n - k.toNat) c') (n - k.toNat) (cs.drop (k.toNat * 2)) :: L) := by
  refine enter Try.func62 rfl rfl rfl (.cons (i := 0) rfl (.cons (i := 1) rfl .nil)) ?_
  intro a hA
  refine wp_seq_k fun k1 hk1 => ?_
  refine wp_region_lit ?_
  refine go1 hA rfl rfl rfl (r_move (hA.ev rfl)) ?_; clear hA a; intro a hA
  refine go1 hA rfl rfl rfl (r_move (hA.ev rfl)) ?_; clear hA a; intro a hA
  refine go1 hA rfl rfl rfl (r_nil (hA.ev rfl)) ?_; clear hA a; intro a hA
  refine go1 hA rfl rfl rfl (r_field (hA.ev rfl) T.fo108_2) ?_; clear hA a; intro a hA
  refine go1 hA rfl rfl rfl (r_load (hA.ev rfl) T.fl60 (by first | exact hS.cell rfl | exact (hS.p 1).cell rfl | exact (hS.p 2).cell rfl)) ?_; clear hA a; intro a hA
  refine go1 hA rfl rfl rfl (r_move (hA.ev rfl)) ?_; clear hA a; intro a hA
  refine go1 hA rfl rfl rfl (r_slice_l (hA.ev rfl) (hA.ev rfl) T.un60 T.sz42 (by omega) (by omega)) ?_; clear hA a; intro a hA
  refine goF hA rfl T.en64 rfl (PairClone_calls _ _ _ _ _ (hS.pull1.rd.cut_l k.toNat (by omega)) (fun u hu => hone u (List.mem_of_mem_drop hu)) (by omega)) ?_
  clear hA a; rintro e w ⟨A', c', rfl, hc', hT⟩; replace hS := hS.rebase1 hT; clear hT
  refine ⟨_, rfl, ?_⟩; intro a hA
  refine go1 hA rfl rfl rfl (r_nil (hA.ev rfl)) ?_; clear hA a; intro a hA
  refine go1 hA rfl rfl rfl (r_field (hA.ev rfl) T.fo108_2) ?_; clear hA a; intro a hA
  first | refine goW hA rfl rfl T.fl60 T.sz60 rfl hS rfl ?_ | refine goW hA rfl rfl T.fl60 T.sz60 rfl (hS.p 1) rfl ?_ | refine goW hA rfl rfl T.fl60 T.sz60 rfl (hS.p 2) rfl ?_
  clear hS; intro w hS
  refine wpList_nil ?_
  refine hk1 _ _ ?_
  clear hk1 k1
  replace hA := hA.keep (.cons (i := 0) rfl (.cons (i := 1) rfl .nil))
  refine wp_region_lit ?_
  refine go1 hA rfl rfl rfl (r_move (hA.ev rfl)) ?_; clear hA a; intro a hA
  refine go1 hA rfl rfl rfl (r_nil (hA.ev rfl)) ?_; clear hA a; intro a hA
  refine go1 hA rfl rfl rfl (r_field (hA.ev rfl) T.fo108_1) ?_; clear hA a; intro a hA
  refine go1 hA rfl rfl rfl (r_load (hA.ev rfl) T.fl3 (by first | exact hS.cell rfl | exact (hS.p 1).cell rfl | exact (hS.p 2).cell rfl)) ?_; clear hA a; intro a hA
  refine go1 hA rfl rfl rfl (r_move (hA.ev rfl)) ?_; clear hA a; intro a hA
  refine go1 hA rfl rfl rfl (r_add64 (hA.ev rfl) (hA.ev rfl) (by omega) (by omega)) ?_; clear hA a; intro a hA
  refine go1 hA rfl rfl rfl (r_nil (hA.ev rfl)) ?_; clear hA a; intro a hA
  refine go1 hA rfl rfl rfl (r_field (hA.ev rfl) T.fo108_1) ?_; clear hA a; intro a hA
  first | refine goW hA rfl rfl T.fl3 T.sz3 rfl hS rfl ?_ | refine goW hA rfl rfl T.fl3 T.sz3 rfl (hS.p 1) rfl ?_ | refine goW hA rfl rfl T.fl3 T.sz3 rfl (hS.p 2) rfl ?_
  clear hS; intro w hS
  refine wpList_nil ?_
  refine end_n (e := .ret) ?_
  refine end0 hA rfl  ?_
  exact ⟨rfl, _, _, hS.pull2.drop⟩
set_option maxRecDepth 100000 in
theorem PairPush_calls (l : Nat) (m f : Int) (A : Option Addr) (n c : Nat) (cs : List Value) (t : Int) (b : ByteArray) (W w : World) (L : List As) (hS : Sat W w (pto l (.cells #[.int .i64 m, .int .i64 f, .slice A n c] 108) :: row 42 2 (.slice A n c) n cs :: L)) (h0 : 0 ≤ f) (h1 : f + n ≤ 9223372036854770000) (hn : n < 1000000) (hone : ∀ u ∈ cs, u.oneCell' = true) : Calls Try.prog 27 #[.pointer (some ⟨l, 0, none⟩), .agg #[.int .i64 t, .string b]] w fun e w' => e = .returned (.int .i64 (f + n)) ∧ (if m < n + 1 then ∃ A' c', Sat W w' (pto l (.cells #[.int .i64 m, .int .i64 (f + 1), .slice A' (n) c'] 108) :: row 42 2 (.slice A' (n) c') (n) ((cs ++ [Value.int .i64 t, Value.string b]).drop 2) :: L) else ∃ A' c', Sat W w' (pto l (.cells #[.int .i64 m, .int .i64 (f), .slice A' (n + 1) c'] 108) :: row 42 2 (.slice A' (n + 1) c') (n + 1) (cs ++ [Value.int .i64 t, Value.string b]) :: L)) := by
  refine enter Try.func27 rfl rfl rfl (.cons (i := 0) rfl (.cons (i := 1) rfl .nil)) ?_
  intro a hA
  refine wp_seq_k fun k1 hk1 => ?_
  refine wp_region_lit ?_
  refine goB hA rfl rfl hS ?_
  clear hA a hS; intro b3 w hS a hA
  replace hS := hS.p 1
  refine go1 hA rfl rfl rfl (r_assign (hA.ev rfl)) ?_; clear hA a; intro a hA
  refine wpList_nil ?_
  refine hk1 _ _ ?_
  clear hk1 k1
  replace hA := hA.keep (.cons (i := 0) rfl (.cons (i := 3) rfl (.cons (i := 4) rfl .nil)))
  refine wp_seq_k fun k2 hk2 => ?_
  refine wp_region_lit ?_
  refine go1 hA rfl rfl rfl (r_move (hA.ev rfl)) ?_; clear hA a; intro a hA
  refine goF hA rfl T.en43 rfl (PairNext_calls _ _ _ _ _ _ _ _ _ hS (by omega) (by omega)) ?_
  clear hA a; clear hS; rintro e w ⟨rfl, hS⟩
  refine ⟨_, rfl, ?_⟩; intro a hA
  refine go1 hA rfl rfl rfl (r_assign (hA.ev rfl)) ?_; clear hA a; intro a hA
  refine wpList_nil ?_
  refine hk2 _ _ ?_
  clear hk2 k2
  replace hA := hA.keep (.cons (i := 0) rfl (.cons (i := 3) rfl (.cons (i := 4) rfl (.cons (i := 5) rfl .nil))))
  refine wp_seq_k fun k3 hk3 => ?_
  refine xEnterE [7, 10] hS (by kernel_rfl) ?_
  replace hS := hS.drew
  refine K.p1 0 hA (pok_then pok_body) rfl rfl rfl rfl (by kernel_rfl) (by kernel_rfl) (by kernel_rfl) (fun w => (r_move (hA.ev rfl))) ?_; clear hA a; intro a hA
  refine K.p1 1 hA (pok_then pok_body) rfl rfl rfl rfl (by kernel_rfl) (by kernel_rfl) (by kernel_rfl) (fun w => (r_move (hA.ev rfl))) ?_; clear hA a; intro a hA
  refine K.p1 2 hA (pok_then pok_body) rfl rfl rfl rfl (by kernel_rfl) (by kernel_rfl) (by kernel_rfl) (fun w => (r_nil (hA.ev rfl))) ?_; clear hA a; intro a hA
  refine K.p1 3 hA (pok_then pok_body) rfl rfl rfl rfl (by kernel_rfl) (by kernel_rfl) (by kernel_rfl) (fun w => (r_field (hA.ev rfl) T.fo108_2)) ?_; clear hA a; intro a hA
  refine K.x1 4 hA (pok_then pok_body) rfl rfl rfl rfl (by kernel_rfl) (by kernel_rfl) (by kernel_rfl) (by kernel_rfl) (by kernel_rfl) (by first | exact ⟨[], hS⟩ | exact ⟨[_], hS⟩ | exact ⟨[_, _], hS⟩ | exact ⟨[_, _, _], hS⟩ | exact ⟨[_, _, _, _], hS⟩ | exact ⟨[_, _, _, _, _], hS⟩ | exact ⟨[_, _, _, _, _, _], hS⟩) (fun w hT => have hS := hT.sat; (r_load (hA.ev rfl) T.fl60 (by first | exact hS.cell rfl | exact (hS.p 1).cell rfl | exact (hS.p 2).cell rfl | exact (hS.p 3).cell rfl | exact (hS.p 4).cell rfl))) ?_; clear hA a; intro a hA
  refine K.x1 5 hA (pok_then pok_body) rfl rfl rfl rfl (by kernel_rfl) (by kernel_rfl) (by kernel_rfl) (by kernel_rfl) (by kernel_rfl) (by first | exact ⟨[], hS⟩ | exact ⟨[_], hS⟩ | exact ⟨[_, _], hS⟩ | exact ⟨[_, _, _], hS⟩ | exact ⟨[_, _, _, _], hS⟩ | exact ⟨[_, _, _, _, _], hS⟩ | exact ⟨[_, _, _, _, _, _], hS⟩) (fun w hT => have hS := hT.sat; (r_loadS (cs := [_, _]) (hA.ev rfl) T.ag42 T.sz42 (by first | exact hS.cellsAt (xs := [_, _]) rfl | exact (hS.p 1).cellsAt (xs := [_, _]) rfl | exact (hS.p 2).cellsAt (xs := [_, _]) rfl | exact (hS.p 3).cellsAt (xs := [_, _]) rfl | exact (hS.p 4).cellsAt (xs := [_, _]) rfl))) ?_; clear hA a; intro a hA
  refine xOne 6 (by kernel_rfl) ?_
  refine eLS (vss := [[_, _]]) hA rfl rfl rfl T.un60 T.el42 rfl rfl rfl (by simp) rfl hS ?_
  clear hA a hS; intro A14 w hS a hA
  refine ⟨.inr fun _ => (by first | exact ⟨[], hS⟩ | exact ⟨[_], hS⟩ | exact ⟨[_, _], hS⟩ | exact ⟨[_, _, _], hS⟩ | exact ⟨[_, _, _, _], hS⟩ | exact ⟨[_, _, _, _, _], hS⟩ | exact ⟨[_, _, _, _, _, _], hS⟩), ?_⟩
  refine xOne 7 (by kernel_rfl) ?_
  replace hS := hS.p 3
  refine eA hA rfl rfl rfl rfl T.un60 T.el42 rfl hS ((hS.pull1.rd).src T.un60 (by simp [Value.oneCell'])) (by omega) (by omega) ?_
  clear hA a hS; intro A15 c15 w hc15 hS a hA
  have hone2 : ∀ u ∈ cs ++ [Value.int .i64 t, Value.string b], u.oneCell' = true := fun u hu => by
    rcases List.mem_append.1 hu with hu | hu
    · exact hone u hu
    · simp at hu; rcases hu with rfl | rfl <;> rfl
  refine ⟨.inl rfl, ?_⟩
  refine K.p1 8 hA (pok_then pok_body) rfl rfl rfl rfl (by kernel_rfl) (by kernel_rfl) (by kernel_rfl) (fun w => (r_nil (hA.ev rfl))) ?_; clear hA a; intro a hA
  refine K.p1 9 hA (pok_then pok_body) rfl rfl rfl rfl (by kernel_rfl) (by kernel_rfl) (by kernel_rfl) (fun w => (r_field (hA.ev rfl) T.fo108_2)) ?_; clear hA a; intro a hA
  refine xOne 10 (by kernel_rfl) ?_
  first | refine eW hA rfl rfl rfl T.fl60 T.sz60 rfl hS rfl ?_ | refine eW hA rfl rfl rfl T.fl60 T.sz60 rfl (hS.p 1) rfl ?_ | refine eW hA rfl rfl rfl T.fl60 T.sz60 rfl (hS.p 2) rfl ?_ | refine eW hA rfl rfl rfl T.fl60 T.sz60 rfl (hS.p 3) rfl ?_ | refine eW hA rfl rfl rfl T.fl60 T.sz60 rfl (hS.p 4) rfl ?_
  clear hS; intro w hS
  refine ⟨.inl rfl, ?_⟩
  refine wpAnyX_done (by kernel_rfl) ?_ _
  refine hk3 _ _ ?_
  clear hk3 k3
  replace hA := hA.keep (.cons (i := 0) rfl (.cons (i := 4) rfl (.cons (i := 5) rfl .nil)))
  refine wp_seq_k fun k4 hk4 => ?_
  refine wp_seq_k fun k5 hk5 => ?_
  refine qEnter (fun w' => Sat _ w' _) (by kernel_rfl) (by kernel_rfl) hS.drew ?_
  refine K.q1 hA rfl rfl rfl (fun w hS => (r_move (hA.ev rfl))) ?_; clear hA a; intro a hA
  refine K.q1 hA rfl rfl rfl (fun w hS => (r_nil (hA.ev rfl))) ?_; clear hA a; intro a hA
  refine K.q1 hA rfl rfl rfl (fun w hS => (r_field (hA.ev rfl) T.fo108_2)) ?_; clear hA a; intro a hA
  refine K.q1 hA rfl rfl rfl (fun w hS => (r_load (hA.ev rfl) T.fl60 (by first | exact hS.cell rfl | exact (hS.p 1).cell rfl | exact (hS.p 2).cell rfl | exact (hS.p 3).cell rfl | exact (hS.p 4).cell rfl))) ?_; clear hA a; intro a hA
  refine K.q1 hA rfl rfl rfl (fun w hS => (r_lens (hA.ev rfl) T.un60)) ?_; clear hA a; intro a hA
  refine K.q1 hA rfl rfl rfl (fun w hS => (r_move (hA.ev rfl))) ?_; clear hA a; intro a hA
  refine K.q1 hA rfl rfl rfl (fun w hS => (r_nil (hA.ev rfl))) ?_; clear hA a; intro a hA
  refine K.q1 hA rfl rfl rfl (fun w hS => (r_field (hA.ev rfl) T.fo108_0)) ?_; clear hA a; intro a hA
  refine K.q1 hA rfl rfl rfl (fun w hS => (r_load (hA.ev rfl) T.fl3 (by first | exact hS.cell rfl | exact (hS.p 1).cell rfl | exact (hS.p 2).cell rfl | exact (hS.p 3).cell rfl | exact (hS.p 4).cell rfl))) ?_; clear hA a; intro a hA
  refine K.q1s hA rfl rfl rfl (fun w hS => (r_gtr (hA.ev rfl) (hA.ev rfl))) ?_ ?_
  · clear hA a; intro h27 a hA
    refine wpQuiet_nil ?_
    clear hS; intro w hS
    refine hk5 _ _ ?_
    clear hk5 k5
    replace hA := hA.keep (.cons (i := 0) rfl (.cons (i := 4) rfl (.cons (i := 5) rfl (.cons (i := 27) rfl .nil))))
    refine wp_cond_true (hA.ev rfl) ?_
    refine wp_region_lit ?_
    refine go1 hA rfl rfl rfl (r_move (hA.ev rfl)) ?_; clear hA a; intro a hA
    refine goF hA rfl T.en62 rfl (PairDrop_calls _ _ _ _ _ _ _ _ _ _ _ hS (by omega) (by omega) (by omega) hone2 (by omega) (by omega)) ?_
    clear hA a; clear hS; rintro e w ⟨rfl, A', c', hS⟩
    refine ⟨_, rfl, ?_⟩; intro a hA
    refine wpList_nil ?_
    refine hk4 _ _ ?_
    clear hk4 k4
    replace hA := hA.keep (.cons (i := 4) rfl (.cons (i := 5) rfl .nil))
    refine wp_seq_k fun k6 hk6 => ?_
    refine wp_region_lit ?_
    refine go1 hA rfl rfl rfl (r_move (hA.ev rfl)) ?_; clear hA a; intro a hA
    replace hS := hS.p 1
    refine go1 hA rfl rfl rfl (r_assign (hA.ev rfl)) ?_; clear hA a; intro a hA
    refine wpList_nil ?_
    refine hk6 _ _ ?_
    clear hk6 k6
    replace hA := hA.keep (.cons (i := 4) rfl .nil)
    refine wp_ret ?_
    refine end1 hA rfl rfl ?_
    refine ⟨rfl, ?_⟩
    rw [if_pos (by omega)]
    have hS := ((hS.p 2).drop.p 2).drop.pull1
    exact ⟨_, _, by simpa using hS⟩
  · clear hA a; intro h27 a hA
    refine wpQuiet_nil ?_
    clear hS; intro w hS
    refine hk5 _ _ ?_
    clear hk5 k5
    replace hA := hA.keep (.cons (i := 0) rfl (.cons (i := 4) rfl (.cons (i := 5) rfl (.cons (i := 27) rfl .nil))))
    refine wp_cond_false (hA.ev rfl) ?_
    refine wp_skip ?_
    refine hk4 _ _ ?_
    clear hk4 k4
    replace hA := hA.keep (.cons (i := 4) rfl (.cons (i := 5) rfl .nil))
    refine wp_seq_k fun k7 hk7 => ?_
    refine wp_region_lit ?_
    refine go1 hA rfl rfl rfl (r_move (hA.ev rfl)) ?_; clear hA a; intro a hA
    replace hS := hS.p 1
    refine go1 hA rfl rfl rfl (r_assign (hA.ev rfl)) ?_; clear hA a; intro a hA
    refine wpList_nil ?_
    refine hk7 _ _ ?_
    clear hk7 k7
    replace hA := hA.keep (.cons (i := 4) rfl .nil)
    refine wp_ret ?_
    refine end1 hA rfl rfl ?_
    refine ⟨rfl, ?_⟩
    rw [if_neg (by omega)]
    have hS := ((hS.p 2).drop.p 2).drop.pull1
    exact ⟨_, _, by simpa using hS⟩
set_option maxRecDepth 100000 in
theorem PairAt_calls (l : Nat) (m f : Int) (A : Option Addr) (n c : Nat) (cs : List Value) (i : Int) (W w : World) (L : List As) (hS : Sat W w (pto l (.cells #[.int .i64 m, .int .i64 f, .slice A n c] 108) :: row 42 2 (.slice A n c) n cs :: L)) (h0 : 0 ≤ f) (h1 : f + n ≤ 9223372036854775800) (hn : n ≤ 1000000) (hone : ∀ u ∈ cs, u.oneCell' = true) (hi0 : -9223372036854775808 ≤ i) (hi1 : i ≤ 9223372036854775807) : Calls Try.prog 33 #[.pointer (some ⟨l, 0, none⟩), .int .i64 i] w fun e w' => Sat W w' (pto l (.cells #[.int .i64 m, .int .i64 f, .slice A n c] 108) :: row 42 2 (.slice A n c) n cs :: L) ∧ if i < f ∨ f + n ≤ i then e = .returned (.tuple #[.agg #[.int .i64 0, .string ⟨#[]⟩], .bool false]) else ∃ u v, cs[(i - f).toNat * 2]? = some u ∧ cs[(i - f).toNat * 2 + 1]? = some v ∧ e = .returned (.tuple #[.agg #[u, v], .bool true]) := by
  refine enter Try.func33 rfl rfl rfl (.cons (i := 0) rfl (.cons (i := 1) rfl .nil)) ?_
  intro a hA
  refine wp_seq_k fun k1 hk1 => ?_
  refine wp_region_lit ?_
  refine goN hA rfl T.zv42 hS ?_
  clear hA a hS; intro b4 w hS a hA
  replace hS := hS.p 1
  refine go1 hA rfl rfl rfl (r_assign (hA.ev rfl)) ?_; clear hA a; intro a hA
  refine wpList_nil ?_
  refine hk1 _ _ ?_
  clear hk1 k1
  refine wp_seq_k fun k2 hk2 => ?_
  refine wp_seq_k fun k3 hk3 => ?_
  refine wp_region_lit ?_
  refine go1 hA rfl rfl rfl (r_move (hA.ev rfl)) ?_; clear hA a; intro a hA
  refine go1 hA rfl rfl rfl (r_move (hA.ev rfl)) ?_; clear hA a; intro a hA
  refine goF hA rfl T.en40 rfl (PairFirst_calls _ _ _ _ _ _ _ _ _ hS) ?_
  clear hA a; clear hS; rintro e w ⟨rfl, hS⟩
  refine ⟨_, rfl, ?_⟩; intro a hA
  refine go1s hA rfl rfl rfl (r_lss (hA.ev rfl) (hA.ev rfl)) ?_ ?_
  · clear hA a; intro h10 a hA
    refine go1 hA rfl rfl rfl (r_move (hA.ev rfl)) ?_; clear hA a; intro a hA
    refine goS hA (wanted_no hA rfl rfl rfl rfl) rfl rfl ?_; clear hA a; intro a hA
    refine goS hA (wanted_no hA rfl rfl rfl rfl) rfl rfl ?_; clear hA a; intro a hA
    refine goS hA (wanted_no hA rfl rfl rfl rfl) rfl rfl ?_; clear hA a; intro a hA
    refine goS hA (wanted_no hA rfl rfl rfl rfl) rfl rfl ?_; clear hA a; intro a hA
    refine go1 hA rfl rfl rfl (r_pick_t (hA.ev rfl) (hA.ev rfl)) ?_; clear hA a; intro a hA
    refine wpList_nil ?_
    refine hk3 _ _ ?_
    clear hk3 k3
    replace hA := hA.keep (.cons (i := 0) rfl (.cons (i := 1) rfl (.cons (i := 4) rfl (.cons (i := 5) rfl (.cons (i := 16) rfl .nil)))))
    refine wp_cond_true (hA.ev rfl) ?_
    refine wp_seq_k fun k4 hk4 => ?_
    refine wp_region_lit ?_
    refine goN hA rfl T.zv42 hS ?_
    clear hA a hS; intro b6 w hS a hA
    refine wpList_nil ?_
    refine hk4 _ _ ?_
    clear hk4 k4
    replace hA := hA.keep (.cons (i := 0) rfl (.cons (i := 1) rfl (.cons (i := 4) rfl (.cons (i := 5) rfl (.cons (i := 6) rfl .nil)))))
    refine wp_seq_k fun k5 hk5 => ?_
    refine wp_region_lit ?_
    refine go1 hA rfl rfl rfl (r_loadS (cs := [_, _]) (hA.ev rfl) T.ag42 T.sz42 (by first | exact hS.cellsAt (xs := [_, _]) rfl | exact (hS.p 1).cellsAt (xs := [_, _]) rfl | exact (hS.p 2).cellsAt (xs := [_, _]) rfl | exact (hS.p 3).cellsAt (xs := [_, _]) rfl)) ?_; clear hA a; intro a hA
    first | refine goWS2 (vs := [_, _]) (cs' := [_, _]) hA rfl rfl T.sz42 (by simp [Value.oneCell']) (hS.p 2) rfl rfl ?_ | refine eWS2 (vs := [_, _]) (cs' := [_, _]) hA rfl rfl rfl T.sz42 (by simp [hone1, hone2]) (hS.p 1) rfl rfl ?_
    clear hS; intro w hS
    replace hS := hS.p 1
    refine go1 hA rfl rfl rfl (r_assign (hA.ev rfl)) ?_; clear hA a; intro a hA
    refine wpList_nil ?_
    refine hk5 _ _ ?_
    clear hk5 k5
    replace hA := hA.keep (.cons (i := 0) rfl (.cons (i := 1) rfl (.cons (i := 4) rfl (.cons (i := 5) rfl .nil))))
    refine wp_ret ?_
    refine then_ret ?_; clear hk2 k2
    refine endR2 hA rfl (resS (cs := [_, _]) hA rfl T.ag42 T.sz42 (by first | exact hS.cellsAt (xs := [_, _]) rfl | exact (hS.p 1).cellsAt (xs := [_, _]) rfl | exact (hS.p 2).cellsAt (xs := [_, _]) rfl | exact (hS.p 3).cellsAt (xs := [_, _]) rfl)) (resT hA rfl) ?_
    refine ⟨hS.drop.drop, ?_⟩
    rw [if_pos (by omega)]
  · clear hA a; intro h10 a hA
    refine go1 hA rfl rfl rfl (r_move (hA.ev rfl)) ?_; clear hA a; intro a hA
    refine go1y hA (wanted_yes hA rfl rfl rfl) rfl rfl (r_move (hA.ev rfl)) ?_; clear hA a; intro a hA
    refine go1y hA (wanted_yes hA rfl rfl rfl) rfl rfl (r_move (hA.ev rfl)) ?_; clear hA a; intro a hA
    refine goFy hA (wanted_yes hA rfl rfl rfl) rfl T.en43 rfl (PairNext_calls _ _ _ _ _ _ _ _ _ hS (by omega) (by omega)) ?_
    clear hA a; clear hS; rintro e w ⟨rfl, hS⟩
    refine ⟨_, rfl, ?_⟩; intro a hA
    refine go1sy hA (wanted_yes hA rfl rfl rfl) rfl rfl (r_geq (hA.ev rfl) (hA.ev rfl)) ?_ ?_
    · clear hA a; intro h15 a hA
      refine go1 hA rfl rfl rfl (r_pick_f (hA.ev rfl) (hA.ev rfl)) ?_; clear hA a; intro a hA
      refine wpList_nil ?_
      refine hk3 _ _ ?_
      clear hk3 k3
      replace hA := hA.keep (.cons (i := 0) rfl (.cons (i := 1) rfl (.cons (i := 4) rfl (.cons (i := 5) rfl (.cons (i := 16) rfl .nil)))))
      refine wp_cond_true (hA.ev rfl) ?_
      refine wp_seq_k fun k6 hk6 => ?_
      refine wp_region_lit ?_
      refine goN hA rfl T.zv42 hS ?_
      clear hA a hS; intro b6 w hS a hA
      refine wpList_nil ?_
      refine hk6 _ _ ?_
      clear hk6 k6
      replace hA := hA.keep (.cons (i := 0) rfl (.cons (i := 1) rfl (.cons (i := 4) rfl (.cons (i := 5) rfl (.cons (i := 6) rfl .nil)))))
      refine wp_seq_k fun k7 hk7 => ?_
      refine wp_region_lit ?_
      refine go1 hA rfl rfl rfl (r_loadS (cs := [_, _]) (hA.ev rfl) T.ag42 T.sz42 (by first | exact hS.cellsAt (xs := [_, _]) rfl | exact (hS.p 1).cellsAt (xs := [_, _]) rfl | exact (hS.p 2).cellsAt (xs := [_, _]) rfl | exact (hS.p 3).cellsAt (xs := [_, _]) rfl)) ?_; clear hA a; intro a hA
      first | refine goWS2 (vs := [_, _]) (cs' := [_, _]) hA rfl rfl T.sz42 (by simp [Value.oneCell']) (hS.p 2) rfl rfl ?_ | refine eWS2 (vs := [_, _]) (cs' := [_, _]) hA rfl rfl rfl T.sz42 (by simp [hone1, hone2]) (hS.p 1) rfl rfl ?_
      clear hS; intro w hS
      replace hS := hS.p 1
      refine go1 hA rfl rfl rfl (r_assign (hA.ev rfl)) ?_; clear hA a; intro a hA
      refine wpList_nil ?_
      refine hk7 _ _ ?_
      clear hk7 k7
      replace hA := hA.keep (.cons (i := 0) rfl (.cons (i := 1) rfl (.cons (i := 4) rfl (.cons (i := 5) rfl .nil))))
      refine wp_ret ?_
      refine then_ret ?_; clear hk2 k2
      refine endR2 hA rfl (resS (cs := [_, _]) hA rfl T.ag42 T.sz42 (by first | exact hS.cellsAt (xs := [_, _]) rfl | exact (hS.p 1).cellsAt (xs := [_, _]) rfl | exact (hS.p 2).cellsAt (xs := [_, _]) rfl | exact (hS.p 3).cellsAt (xs := [_, _]) rfl)) (resT hA rfl) ?_
      refine ⟨hS.drop.drop, ?_⟩
      rw [if_pos (by omega)]
    · clear hA a; intro h15 a hA
      obtain ⟨p, rfl⟩ : ∃ p, A = some p := (hS.p 2).rd.hasAddr (by omega)
      obtain ⟨u, hu⟩ : ∃ u, cs[(i - f).toNat * 2]? = some u := ⟨_, List.getElem?_eq_getElem (by have := (hS.p 2).rd.len; omega)⟩
      obtain ⟨v, hv⟩ : ∃ v, cs[(i - f).toNat * 2 + 1]? = some v := ⟨_, List.getElem?_eq_getElem (by have := (hS.p 2).rd.len; omega)⟩
      have hone1 := hone u (List.mem_of_getElem? hu); have hone2 := hone v (List.mem_of_getElem? hv)
      refine go1 hA rfl rfl rfl (r_pick_f (hA.ev rfl) (hA.ev rfl)) ?_; clear hA a; intro a hA
      refine wpList_nil ?_
      refine hk3 _ _ ?_
      clear hk3 k3
      replace hA := hA.keep (.cons (i := 0) rfl (.cons (i := 1) rfl (.cons (i := 4) rfl (.cons (i := 5) rfl (.cons (i := 16) rfl .nil)))))
      refine wp_cond_false (hA.ev rfl) ?_
      refine wp_skip ?_
      refine hk2 _ _ ?_
      clear hk2 k2
      replace hA := hA.keep (.cons (i := 0) rfl (.cons (i := 1) rfl (.cons (i := 4) rfl (.cons (i := 5) rfl .nil))))
      refine wp_seq_k fun k8 hk8 => ?_
      refine xEnterE [12] hS (by kernel_rfl) ?_
      replace hS := hS.drew
      refine K.p1 0 hA (pok_then pok_body) rfl rfl rfl rfl (by kernel_rfl) (by kernel_rfl) (by kernel_rfl) (fun w => (r_move (hA.ev rfl))) ?_; clear hA a; intro a hA
      refine K.p1 1 hA (pok_then pok_body) rfl rfl rfl rfl (by kernel_rfl) (by kernel_rfl) (by kernel_rfl) (fun w => (r_nil (hA.ev rfl))) ?_; clear hA a; intro a hA
      refine K.p1 2 hA (pok_then pok_body) rfl rfl rfl rfl (by kernel_rfl) (by kernel_rfl) (by kernel_rfl) (fun w => (r_field (hA.ev rfl) T.fo108_2)) ?_; clear hA a; intro a hA
      refine K.x1 3 hA (pok_then pok_body) rfl rfl rfl rfl (by kernel_rfl) (by kernel_rfl) (by kernel_rfl) (by kernel_rfl) (by kernel_rfl) (by first | exact ⟨[], hS⟩ | exact ⟨[_], hS⟩ | exact ⟨[_, _], hS⟩ | exact ⟨[_, _, _], hS⟩ | exact ⟨[_, _, _, _], hS⟩ | exact ⟨[_, _, _, _, _], hS⟩ | exact ⟨[_, _, _, _, _, _], hS⟩) (fun w hT => have hS := hT.sat; (r_load (hA.ev rfl) T.fl60 (by first | exact hS.cell rfl | exact (hS.p 1).cell rfl | exact (hS.p 2).cell rfl | exact (hS.p 3).cell rfl))) ?_; clear hA a; intro a hA
      refine K.p1 4 hA (pok_then pok_body) rfl rfl rfl rfl (by kernel_rfl) (by kernel_rfl) (by kernel_rfl) (fun w => (r_move (hA.ev rfl))) ?_; clear hA a; intro a hA
      refine K.p1 5 hA (pok_then pok_body) rfl rfl rfl rfl (by kernel_rfl) (by kernel_rfl) (by kernel_rfl) (fun w => (r_move (hA.ev rfl))) ?_; clear hA a; intro a hA
      refine K.p1 6 hA (pok_then pok_body) rfl rfl rfl rfl (by kernel_rfl) (by kernel_rfl) (by kernel_rfl) (fun w => (r_nil (hA.ev rfl))) ?_; clear hA a; intro a hA
      refine K.p1 7 hA (pok_then pok_body) rfl rfl rfl rfl (by kernel_rfl) (by kernel_rfl) (by kernel_rfl) (fun w => (r_field (hA.ev rfl) T.fo108_1)) ?_; clear hA a; intro a hA
      refine K.x1 8 hA (pok_then pok_body) rfl rfl rfl rfl (by kernel_rfl) (by kernel_rfl) (by kernel_rfl) (by kernel_rfl) (by kernel_rfl) (by first | exact ⟨[], hS⟩ | exact ⟨[_], hS⟩ | exact ⟨[_, _], hS⟩ | exact ⟨[_, _, _], hS⟩ | exact ⟨[_, _, _, _], hS⟩ | exact ⟨[_, _, _, _, _], hS⟩ | exact ⟨[_, _, _, _, _, _], hS⟩) (fun w hT => have hS := hT.sat; (r_load (hA.ev rfl) T.fl3 (by first | exact hS.cell rfl | exact (hS.p 1).cell rfl | exact (hS.p 2).cell rfl | exact (hS.p 3).cell rfl))) ?_; clear hA a; intro a hA
      refine K.p1 9 hA (pok_then pok_body) rfl rfl rfl rfl (by kernel_rfl) (by kernel_rfl) (by kernel_rfl) (fun w => (r_sub64 (hA.ev rfl) (hA.ev rfl) (by omega) (by omega))) ?_; clear hA a; intro a hA
      refine K.p1 10 hA (pok_then pok_body) rfl rfl rfl rfl (by kernel_rfl) (by kernel_rfl) (by kernel_rfl) (fun w => (r_index (hA.ev rfl) (hA.ev rfl) T.un60 T.sz42 (by omega) (by omega))) ?_; clear hA a; intro a hA
      refine K.x1 11 hA (pok_then pok_body) rfl rfl rfl rfl (by kernel_rfl) (by kernel_rfl) (by kernel_rfl) (by kernel_rfl) (by kernel_rfl) (by first | exact ⟨[], hS⟩ | exact ⟨[_], hS⟩ | exact ⟨[_, _], hS⟩ | exact ⟨[_, _, _], hS⟩ | exact ⟨[_, _, _, _], hS⟩ | exact ⟨[_, _, _, _, _], hS⟩ | exact ⟨[_, _, _, _, _, _], hS⟩) (fun w hT => have hS := hT.sat; (r_loadS (cs := [u, v]) (hA.ev rfl) T.ag42 T.sz42 (two_at (hS.p 2).rd hu hv))) ?_; clear hA a; intro a hA
      refine xOne 12 (by kernel_rfl) ?_
      first | refine goWS2 (vs := [_, _]) (cs' := [_, _]) hA rfl rfl T.sz42 (by simp [Value.oneCell']) (hS.p 2) rfl rfl ?_ | refine eWS2 (vs := [_, _]) (cs' := [_, _]) hA rfl rfl rfl T.sz42 (by simp [hone1, hone2]) (hS.p 1) rfl rfl ?_
      clear hS; intro w hS
      refine ⟨.inl rfl, ?_⟩
      replace hS := hS.p 1
      refine K.p1 13 hA (pok_then pok_body) rfl rfl rfl rfl (by kernel_rfl) (by kernel_rfl) (by kernel_rfl) (fun w => (r_assign (hA.ev rfl))) ?_; clear hA a; intro a hA
      refine wpAnyX_done (by kernel_rfl) ?_ _
      refine hk8 _ _ ?_
      clear hk8 k8
      replace hA := hA.keep (.cons (i := 4) rfl (.cons (i := 5) rfl .nil))
      refine wp_ret ?_
      refine endR2 hA rfl (resS (cs := [_, _]) hA rfl T.ag42 T.sz42 (by first | exact hS.cellsAt (xs := [_, _]) rfl | exact (hS.p 1).cellsAt (xs := [_, _]) rfl | exact (hS.p 2).cellsAt (xs := [_, _]) rfl | exact (hS.p 3).cellsAt (xs := [_, _]) rfl)) (resT hA rfl) ?_
      refine ⟨(hS.p 1).drop, ?_⟩
      rw [if_neg (by omega)]
      exact ⟨u, v, hu, hv, rfl⟩
set_option maxRecDepth 100000 in
theorem PairFrom_calls (l : Nat) (m f : Int) (A : Option Addr) (n c : Nat) (cs : List Value) (i : Int) (W w : World) (L : List As) (hS : Sat W w (pto l (.cells #[.int .i64 m, .int .i64 f, .slice A n c] 108) :: row 42 2 (.slice A n c) n cs :: L)) (h0 : 0 ≤ f) (h1 : f + n ≤ 9223372036854775800) (hn : n ≤ 1000000) (hone : ∀ u ∈ cs, u.oneCell' = true) (hi0 : -9223372036854775808 ≤ i) (hi1 : i ≤ 9223372036854775807) : Calls Try.prog 36 #[.pointer (some ⟨l, 0, none⟩), .int .i64 i] w fun e w' => if i < f ∨ f + n < i then e = .returned (.tuple #[.slice none 0 0, .bool false]) ∧ Sat W w' (pto l (.cells #[.int .i64 m, .int .i64 f, .slice A n c] 108) :: row 42 2 (.slice A n c) n cs :: L) else ∃ A' c', e = .returned (.tuple #[.slice A' (n - (i - f).toNat) c', .bool true]) ∧ Sat W w' (row 42 2 (.slice A' (n - (i - f).toNat) c') (n - (i - f).toNat) (cs.drop ((i - f).toNat * 2)) :: pto l (.cells #[.int .i64 m, .int .i64 f, .slice A n c] 108) :: row 42 2 (.slice A n c) n cs :: L) := by
  refine enter Try.func36 rfl rfl rfl (.cons (i := 0) rfl (.cons (i := 1) rfl .nil)) ?_
  intro a hA
  refine wp_seq_k fun k1 hk1 => ?_
  refine wp_region_lit ?_
  refine go1 hA rfl rfl rfl (r_assign (hA.ev rfl)) ?_; clear hA a; intro a hA
  refine go1 hA rfl rfl rfl (r_assign (hA.ev rfl)) ?_; clear hA a; intro a hA
  refine wpList_nil ?_
  refine hk1 _ _ ?_
  clear hk1 k1
  refine wp_seq_k fun k2 hk2 => ?_
  refine wp_seq_k fun k3 hk3 => ?_
  refine wp_region_lit ?_
  refine go1 hA rfl rfl rfl (r_move (hA.ev rfl)) ?_; clear hA a; intro a hA
  refine go1 hA rfl rfl rfl (r_move (hA.ev rfl)) ?_; clear hA a; intro a hA
  refine goF hA rfl T.en40 rfl (PairFirst_calls _ _ _ _ _ _ _ _ _ hS) ?_
  clear hA a; clear hS; rintro e w ⟨rfl, hS⟩
  refine ⟨_, rfl, ?_⟩; intro a hA
  refine go1s hA rfl rfl rfl (r_lss (hA.ev rfl) (hA.ev rfl)) ?_ ?_
  · clear hA a; intro h9 a hA
    refine go1 hA rfl rfl rfl (r_move (hA.ev rfl)) ?_; clear hA a; intro a hA
    refine goS hA (wanted_no hA rfl rfl rfl rfl) rfl rfl ?_; clear hA a; intro a hA
    refine goS hA (wanted_no hA rfl rfl rfl rfl) rfl rfl ?_; clear hA a; intro a hA
    refine goS hA (wanted_no hA rfl rfl rfl rfl) rfl rfl ?_; clear hA a; intro a hA
    refine goS hA (wanted_no hA rfl rfl rfl rfl) rfl rfl ?_; clear hA a; intro a hA
    refine go1 hA rfl rfl rfl (r_pick_t (hA.ev rfl) (hA.ev rfl)) ?_; clear hA a; intro a hA
    refine wpList_nil ?_
    refine hk3 _ _ ?_
    clear hk3 k3
    replace hA := hA.keep (.cons (i := 0) rfl (.cons (i := 1) rfl (.cons (i := 4) rfl (.cons (i := 5) rfl (.cons (i := 15) rfl .nil)))))
    refine wp_cond_true (hA.ev rfl) ?_
    refine wp_seq_k fun k4 hk4 => ?_
    refine wp_region_lit ?_
    refine go1 hA rfl rfl rfl (r_assign (hA.ev rfl)) ?_; clear hA a; intro a hA
    refine go1 hA rfl rfl rfl (r_assign (hA.ev rfl)) ?_; clear hA a; intro a hA
    refine wpList_nil ?_
    refine hk4 _ _ ?_
    clear hk4 k4
    replace hA := hA.keep (.cons (i := 0) rfl (.cons (i := 1) rfl (.cons (i := 4) rfl (.cons (i := 5) rfl .nil))))
    refine wp_ret ?_
    refine then_ret ?_; clear hk2 k2
    refine end2 hA rfl rfl rfl ?_
    rw [if_pos (by omega)]
    exact ⟨rfl, hS⟩
  · clear hA a; intro h9 a hA
    refine go1 hA rfl rfl rfl (r_move (hA.ev rfl)) ?_; clear hA a; intro a hA
    refine go1y hA (wanted_yes hA rfl rfl rfl) rfl rfl (r_move (hA.ev rfl)) ?_; clear hA a; intro a hA
    refine go1y hA (wanted_yes hA rfl rfl rfl) rfl rfl (r_move (hA.ev rfl)) ?_; clear hA a; intro a hA
    refine goFy hA (wanted_yes hA rfl rfl rfl) rfl T.en43 rfl (PairNext_calls _ _ _ _ _ _ _ _ _ hS (by omega) (by omega)) ?_
    clear hA a; clear hS; rintro e w ⟨rfl, hS⟩
    refine ⟨_, rfl, ?_⟩; intro a hA
    refine go1sy hA (wanted_yes hA rfl rfl rfl) rfl rfl (r_gtr (hA.ev rfl) (hA.ev rfl)) ?_ ?_
    · clear hA a; intro h14 a hA
      refine go1 hA rfl rfl rfl (r_pick_f (hA.ev rfl) (hA.ev rfl)) ?_; clear hA a; intro a hA
      refine wpList_nil ?_
      refine hk3 _ _ ?_
      clear hk3 k3
      replace hA := hA.keep (.cons (i := 0) rfl (.cons (i := 1) rfl (.cons (i := 4) rfl (.cons (i := 5) rfl (.cons (i := 15) rfl .nil)))))
      refine wp_cond_true (hA.ev rfl) ?_
      refine wp_seq_k fun k5 hk5 => ?_
      refine wp_region_lit ?_
      refine go1 hA rfl rfl rfl (r_assign (hA.ev rfl)) ?_; clear hA a; intro a hA
      refine go1 hA rfl rfl rfl (r_assign (hA.ev rfl)) ?_; clear hA a; intro a hA
      refine wpList_nil ?_
      refine hk5 _ _ ?_
      clear hk5 k5
      replace hA := hA.keep (.cons (i := 0) rfl (.cons (i := 1) rfl (.cons (i := 4) rfl (.cons (i := 5) rfl .nil))))
      refine wp_ret ?_
      refine then_ret ?_; clear hk2 k2
      refine end2 hA rfl rfl rfl ?_
      rw [if_pos (by omega)]
      exact ⟨rfl, hS⟩
    · clear hA a; intro h14 a hA
      refine go1 hA rfl rfl rfl (r_pick_f (hA.ev rfl) (hA.ev rfl)) ?_; clear hA a; intro a hA
      refine wpList_nil ?_
      refine hk3 _ _ ?_
      clear hk3 k3
      replace hA := hA.keep (.cons (i := 0) rfl (.cons (i := 1) rfl (.cons (i := 4) rfl (.cons (i := 5) rfl (.cons (i := 15) rfl .nil)))))
      refine wp_cond_false (hA.ev rfl) ?_
      refine wp_skip ?_
      refine hk2 _ _ ?_
      clear hk2 k2
      replace hA := hA.keep (.cons (i := 0) rfl (.cons (i := 1) rfl (.cons (i := 4) rfl (.cons (i := 5) rfl .nil))))
      refine wp_seq_k fun k6 hk6 => ?_
      refine hEnter (fun w' => ∃ M, Sat W w' (M ++ pto l (.cells #[.int .i64 m, .int .i64 f, .slice A n c] 108) :: row 42 2 (.slice A n c) n cs :: L)) (by kernel_rfl) ?_
      replace hS := hS.drew
      refine K.h1 0 hA (pok_then pok_body) rfl rfl rfl rfl (by kernel_rfl) (by kernel_rfl) (by kernel_rfl) (by first | exact ⟨[], hS⟩ | exact ⟨[_], hS⟩) (fun w hT => let ⟨M, hM⟩ := hT; have hS := hM.past; (r_move (hA.ev rfl))) ?_; clear hA a; intro a hA
      refine K.h1 1 hA (pok_then pok_body) rfl rfl rfl rfl (by kernel_rfl) (by kernel_rfl) (by kernel_rfl) (by first | exact ⟨[], hS⟩ | exact ⟨[_], hS⟩) (fun w hT => let ⟨M, hM⟩ := hT; have hS := hM.past; (r_nil (hA.ev rfl))) ?_; clear hA a; intro a hA
      refine K.h1 2 hA (pok_then pok_body) rfl rfl rfl rfl (by kernel_rfl) (by kernel_rfl) (by kernel_rfl) (by first | exact ⟨[], hS⟩ | exact ⟨[_], hS⟩) (fun w hT => let ⟨M, hM⟩ := hT; have hS := hM.past; (r_field (hA.ev rfl) T.fo108_2)) ?_; clear hA a; intro a hA
      refine K.h1 3 hA (pok_then pok_body) rfl rfl rfl rfl (by kernel_rfl) (by kernel_rfl) (by kernel_rfl) (by first | exact ⟨[], hS⟩ | exact ⟨[_], hS⟩) (fun w hT => let ⟨M, hM⟩ := hT; have hS := hM.past; (r_load (hA.ev rfl) T.fl60 (by first | exact hS.cell rfl | exact (hS.p 1).cell rfl))) ?_; clear hA a; intro a hA
      refine K.h1 4 hA (pok_then pok_body) rfl rfl rfl rfl (by kernel_rfl) (by kernel_rfl) (by kernel_rfl) (by first | exact ⟨[], hS⟩ | exact ⟨[_], hS⟩) (fun w hT => let ⟨M, hM⟩ := hT; have hS := hM.past; (r_move (hA.ev rfl))) ?_; clear hA a; intro a hA
      refine K.h1 5 hA (pok_then pok_body) rfl rfl rfl rfl (by kernel_rfl) (by kernel_rfl) (by kernel_rfl) (by first | exact ⟨[], hS⟩ | exact ⟨[_], hS⟩) (fun w hT => let ⟨M, hM⟩ := hT; have hS := hM.past; (r_move (hA.ev rfl))) ?_; clear hA a; intro a hA
      refine K.h1 6 hA (pok_then pok_body) rfl rfl rfl rfl (by kernel_rfl) (by kernel_rfl) (by kernel_rfl) (by first | exact ⟨[], hS⟩ | exact ⟨[_], hS⟩) (fun w hT => let ⟨M, hM⟩ := hT; have hS := hM.past; (r_nil (hA.ev rfl))) ?_; clear hA a; intro a hA
      refine K.h1 7 hA (pok_then pok_body) rfl rfl rfl rfl (by kernel_rfl) (by kernel_rfl) (by kernel_rfl) (by first | exact ⟨[], hS⟩ | exact ⟨[_], hS⟩) (fun w hT => let ⟨M, hM⟩ := hT; have hS := hM.past; (r_field (hA.ev rfl) T.fo108_1)) ?_; clear hA a; intro a hA
      refine K.h1 8 hA (pok_then pok_body) rfl rfl rfl rfl (by kernel_rfl) (by kernel_rfl) (by kernel_rfl) (by first | exact ⟨[], hS⟩ | exact ⟨[_], hS⟩) (fun w hT => let ⟨M, hM⟩ := hT; have hS := hM.past; (r_load (hA.ev rfl) T.fl3 (by first | exact hS.cell rfl | exact (hS.p 1).cell rfl))) ?_; clear hA a; intro a hA
      refine K.h1 9 hA (pok_then pok_body) rfl rfl rfl rfl (by kernel_rfl) (by kernel_rfl) (by kernel_rfl) (by first | exact ⟨[], hS⟩ | exact ⟨[_], hS⟩) (fun w hT => let ⟨M, hM⟩ := hT; have hS := hM.past; (r_sub64 (hA.ev rfl) (hA.ev rfl) (by omega) (by omega))) ?_; clear hA a; intro a hA
      refine K.h1 10 hA (pok_then pok_body) rfl rfl rfl rfl (by kernel_rfl) (by kernel_rfl) (by kernel_rfl) (by first | exact ⟨[], hS⟩ | exact ⟨[_], hS⟩) (fun w hT => let ⟨M, hM⟩ := hT; have hS := hM.past; (r_slice_l (hA.ev rfl) (hA.ev rfl) T.un60 T.sz42 (by omega) (by omega))) ?_; clear hA a; intro a hA
      refine hOne 11 (by kernel_rfl) ?_
      refine eF hA rfl rfl T.en64 rfl (PairClone_calls _ _ _ _ _ (hS.pull1.rd.cut_l (i - f).toNat (by omega)) (fun u hu => hone u (List.mem_of_mem_drop hu)) (by omega)) ?_
      clear hA a; rintro e w ⟨A', c', rfl, hc', hT⟩; replace hS := hS.rebase1 hT; clear hT
      refine ⟨_, rfl, ?_⟩; intro a hA
      refine ⟨⟨[_], hS⟩, ?_⟩
      refine K.h1 12 hA (pok_then pok_body) rfl rfl rfl rfl (by kernel_rfl) (by kernel_rfl) (by kernel_rfl) (by first | exact ⟨[], hS⟩ | exact ⟨[_], hS⟩) (fun w hT => let ⟨M, hM⟩ := hT; have hS := hM.past; (r_assign (hA.ev rfl))) ?_; clear hA a; intro a hA
      refine K.h1 13 hA (pok_then pok_body) rfl rfl rfl rfl (by kernel_rfl) (by kernel_rfl) (by kernel_rfl) (by first | exact ⟨[], hS⟩ | exact ⟨[_], hS⟩) (fun w hT => let ⟨M, hM⟩ := hT; have hS := hM.past; (r_assign (hA.ev rfl))) ?_; clear hA a; intro a hA
      refine wpAnyH_done (by kernel_rfl) ?_ _
      refine hk6 _ _ ?_
      clear hk6 k6
      replace hA := hA.keep (.cons (i := 4) rfl (.cons (i := 5) rfl .nil))
      refine wp_ret ?_
      refine end2 hA rfl rfl rfl ?_
      rw [if_neg (by omega)]
      exact ⟨_, _, rfl, hS⟩
set_option maxRecDepth 100000 in
theorem PairTrim_calls (l : Nat) (m f : Int) (A : Option Addr) (n c : Nat) (cs : List Value) (i : Int) (W w : World) (L : List As) (hS : Sat W w (pto l (.cells #[.int .i64 m, .int .i64 f, .slice A n c] 108) :: row 42 2 (.slice A n c) n cs :: L)) (h0 : 0 ≤ f) (h1 : f + n ≤ 9223372036854775800) (hn : n ≤ 1000000) (hone : ∀ u ∈ cs, u.oneCell' = true) (hi0 : -9223372036854775808 ≤ i) (hi1 : i ≤ 9223372036854775807) : Calls Try.prog 30 #[.pointer (some ⟨l, 0, none⟩), .int .i64 i] w fun e w' => if i ≤ f then e = .returned (.int .i64 0) ∧ Sat W w' (pto l (.cells #[.int .i64 m, .int .i64 f, .slice A n c] 108) :: row 42 2 (.slice A n c) n cs :: L) else e = .returned (.int .i64 (min (i - f) n)) ∧ ∃ A' c', Sat W w' (pto l (.cells #[.int .i64 m, .int .i64 (f + min (i - f) n), .slice A' (n - (min (i - f) n).toNat) c'] 108) :: row 42 2 (.slice A' (n - (min (i - f) n).toNat) c') (n - (min (i - f) n).toNat) (cs.drop ((min (i - f) n).toNat * 2)) :: L) := by
  refine enter Try.func30 rfl rfl rfl (.cons (i := 0) rfl (.cons (i := 1) rfl .nil)) ?_
  intro a hA
  refine wp_seq_k fun k1 hk1 => ?_
  refine wp_region_lit ?_
  refine go1 hA rfl rfl rfl (r_assign (hA.ev rfl)) ?_; clear hA a; intro a hA
  refine wpList_nil ?_
  refine hk1 _ _ ?_
  clear hk1 k1
  refine wp_seq_k fun k2 hk2 => ?_
  refine wp_seq_k fun k3 hk3 => ?_
  refine wp_region_lit ?_
  refine go1 hA rfl rfl rfl (r_move (hA.ev rfl)) ?_; clear hA a; intro a hA
  refine go1 hA rfl rfl rfl (r_move (hA.ev rfl)) ?_; clear hA a; intro a hA
  refine go1 hA rfl rfl rfl (r_nil (hA.ev rfl)) ?_; clear hA a; intro a hA
  refine go1 hA rfl rfl rfl (r_field (hA.ev rfl) T.fo108_1) ?_; clear hA a; intro a hA
  refine go1 hA rfl rfl rfl (r_load (hA.ev rfl) T.fl3 (by first | exact hS.cell rfl | exact (hS.p 1).cell rfl)) ?_; clear hA a; intro a hA
  refine go1s hA rfl rfl rfl (r_leq (hA.ev rfl) (hA.ev rfl)) ?_ ?_
  · clear hA a; intro h11 a hA
    refine wpList_nil ?_
    refine hk3 _ _ ?_
    clear hk3 k3
    replace hA := hA.keep (.cons (i := 0) rfl (.cons (i := 1) rfl (.cons (i := 4) rfl (.cons (i := 11) rfl .nil))))
    refine wp_cond_true (hA.ev rfl) ?_
    refine wp_seq_k fun k4 hk4 => ?_
    refine wp_region_lit ?_
    refine go1 hA rfl rfl rfl (r_assign (hA.ev rfl)) ?_; clear hA a; intro a hA
    refine wpList_nil ?_
    refine hk4 _ _ ?_
    clear hk4 k4
    replace hA := hA.keep (.cons (i := 0) rfl (.cons (i := 1) rfl (.cons (i := 4) rfl .nil)))
    refine wp_ret ?_
    refine then_ret ?_; clear hk2 k2
    refine end1 hA rfl rfl ?_
    rw [if_pos (by omega)]
    exact ⟨rfl, hS⟩
  · clear hA a; intro h11 a hA
    refine wpList_nil ?_
    refine hk3 _ _ ?_
    clear hk3 k3
    replace hA := hA.keep (.cons (i := 0) rfl (.cons (i := 1) rfl (.cons (i := 4) rfl (.cons (i := 11) rfl .nil))))
    refine wp_cond_false (hA.ev rfl) ?_
    refine wp_skip ?_
    refine hk2 _ _ ?_
    clear hk2 k2
    replace hA := hA.keep (.cons (i := 0) rfl (.cons (i := 1) rfl (.cons (i := 4) rfl .nil)))
    refine wp_seq_k fun k5 hk5 => ?_
    refine qEnter (fun w' => Sat _ w' _) (by kernel_rfl) (by kernel_rfl) hS.drew ?_
    refine K.q1 hA rfl rfl rfl (fun w hS => (r_move (hA.ev rfl))) ?_; clear hA a; intro a hA
    refine K.q1 hA rfl rfl rfl (fun w hS => (r_move (hA.ev rfl))) ?_; clear hA a; intro a hA
    refine K.q1 hA rfl rfl rfl (fun w hS => (r_nil (hA.ev rfl))) ?_; clear hA a; intro a hA
    refine K.q1 hA rfl rfl rfl (fun w hS => (r_field (hA.ev rfl) T.fo108_1)) ?_; clear hA a; intro a hA
    refine K.q1 hA rfl rfl rfl (fun w hS => (r_load (hA.ev rfl) T.fl3 (by first | exact hS.cell rfl | exact (hS.p 1).cell rfl))) ?_; clear hA a; intro a hA
    refine K.q1 hA rfl rfl rfl (fun w hS => (r_sub64 (hA.ev rfl) (hA.ev rfl) (by omega) (by omega))) ?_; clear hA a; intro a hA
    refine K.q1 hA rfl rfl rfl (fun w hS => (r_move (hA.ev rfl))) ?_; clear hA a; intro a hA
    refine K.q1 hA rfl rfl rfl (fun w hS => (r_nil (hA.ev rfl))) ?_; clear hA a; intro a hA
    refine K.q1 hA rfl rfl rfl (fun w hS => (r_field (hA.ev rfl) T.fo108_2)) ?_; clear hA a; intro a hA
    refine K.q1 hA rfl rfl rfl (fun w hS => (r_load (hA.ev rfl) T.fl60 (by first | exact hS.cell rfl | exact (hS.p 1).cell rfl))) ?_; clear hA a; intro a hA
    refine K.q1 hA rfl rfl rfl (fun w hS => (r_lens (hA.ev rfl) T.un60)) ?_; clear hA a; intro a hA
    refine K.q1 hA rfl rfl rfl (fun w hS => (r_min2 (hA.ev rfl) (hA.ev rfl))) ?_; clear hA a; intro a hA
    refine K.q1 hA rfl rfl rfl (fun w hS => (r_assign (hA.ev rfl))) ?_; clear hA a; intro a hA
    refine wpQuiet_nil ?_
    clear hS; intro w hS
    refine hk5 _ _ ?_
    clear hk5 k5
    replace hA := hA.keep (.cons (i := 0) rfl (.cons (i := 4) rfl (.cons (i := 5) rfl .nil)))
    refine wp_seq_k fun k6 hk6 => ?_
    refine wp_region_lit ?_
    refine go1 hA rfl rfl rfl (r_move (hA.ev rfl)) ?_; clear hA a; intro a hA
    refine go1 hA rfl rfl rfl (r_move (hA.ev rfl)) ?_; clear hA a; intro a hA
    refine goF hA rfl T.en62 rfl (PairDrop_calls _ _ _ _ _ _ _ _ _ _ _ hS (by omega) (by omega) (by omega) hone (by omega) (by omega)) ?_
    clear hA a; clear hS; rintro e w ⟨rfl, A', c', hS⟩
    refine ⟨_, rfl, ?_⟩; intro a hA
    refine wpList_nil ?_
    refine hk6 _ _ ?_
    clear hk6 k6
    replace hA := hA.keep (.cons (i := 4) rfl (.cons (i := 5) rfl .nil))
    refine wp_seq_k fun k7 hk7 => ?_
    refine wp_region_lit ?_
    refine go1 hA rfl rfl rfl (r_move (hA.ev rfl)) ?_; clear hA a; intro a hA
    refine go1 hA rfl rfl rfl (r_assign (hA.ev rfl)) ?_; clear hA a; intro a hA
    refine wpList_nil ?_
    refine hk7 _ _ ?_
    clear hk7 k7
    replace hA := hA.keep (.cons (i := 4) rfl .nil)
    refine wp_ret ?_
    refine end1 hA rfl rfl ?_
    rw [if_neg (by omega)]
    exact ⟨rfl, _, _, hS⟩
set_option maxRecDepth 100000 in
theorem PairNew_calls (m f : Int) (W w : World) (L : List As) (hS : Sat W w (L))  : Calls Try.prog 22 #[.int .i64 m, .int .i64 f] w fun e w' => ∃ l, e = .returned (.pointer (some ⟨l, 0, none⟩)) ∧ Sat W w' (pto l (.cells #[.int .i64 (min (max m 0) 64), .int .i64 (min (max f 0) 4611686018427387904), .slice none 0 0] 108) :: row 42 2 (.slice none 0 0) 0 [] :: L) := by
  refine enter Try.func22 rfl rfl rfl (.cons (i := 0) rfl (.cons (i := 1) rfl .nil)) ?_
  intro a hA
  refine wp_seq_k fun k1 hk1 => ?_
  refine wp_region_lit ?_
  refine go1 hA rfl rfl rfl (r_assign (hA.ev rfl)) ?_; clear hA a; intro a hA
  refine wpList_nil ?_
  refine hk1 _ _ ?_
  clear hk1 k1
  refine wp_seq_k fun k2 hk2 => ?_
  refine wp_region_lit ?_
  refine go1 hA rfl rfl rfl (r_move (hA.ev rfl)) ?_; clear hA a; intro a hA
  refine go1 hA rfl rfl rfl (r_max2 (hA.ev rfl) (hA.ev rfl)) ?_; clear hA a; intro a hA
  refine go1 hA rfl rfl rfl (r_min2 (hA.ev rfl) (hA.ev rfl)) ?_; clear hA a; intro a hA
  refine go1 hA rfl rfl rfl (r_move (hA.ev rfl)) ?_; clear hA a; intro a hA
  refine go1 hA rfl rfl rfl (r_max2 (hA.ev rfl) (hA.ev rfl)) ?_; clear hA a; intro a hA
  refine go1 hA rfl rfl rfl (r_min2 (hA.ev rfl) (hA.ev rfl)) ?_; clear hA a; intro a hA
  refine go1 hA rfl rfl rfl (r_build hA rfl T.bd108_0_1) ?_; clear hA a; intro a hA
  refine goB hA rfl rfl hS ?_
  clear hA a hS; intro b12 w hS a hA
  refine go1 hA rfl rfl rfl (r_assign (hA.ev rfl)) ?_; clear hA a; intro a hA
  refine wpList_nil ?_
  refine hk2 _ _ ?_
  clear hk2 k2
  replace hA := hA.keep (.cons (i := 4) rfl .nil)
  refine wp_ret ?_
  refine end1 hA rfl rfl ?_
  exact ⟨_, rfl, (hS.row_nil _ _).pull1⟩
end Go.Proofs.Ytmooogahfkgljaa.Wk
