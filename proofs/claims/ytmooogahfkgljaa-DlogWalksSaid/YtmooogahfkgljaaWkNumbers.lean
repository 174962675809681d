/- The walks of barrowlaw16.fixed and barrowlaw16.DlogNumbers: both return true. Conditions: the script is read as data. -/
import Derived.Test.YtmooogahfkgljaaT
import Derived.Test.YtmooogahfkgljaaWkDlog
set_option linter.unusedVariables false
set_option linter.unusedSimpArgs false
namespace Go.Proofs.Ytmooogahfkgljaa.Wk
open Go Go.RowKit Go.Proofs.Ytmooogahfkgljaa Go.Proofs.Ytmooogahfkgljaa.K

structure OpD where
  k : Int
  s : Bool
  n : Int
  x : Int
def encO (o : OpD) : List Value := [.int .i64 o.k, .bool o.s, .int .i64 o.n, .int .i64 o.x]
theorem op_at {ops : List OpD} {i : Int} {o : OpD} (h : ops[i.toNat]? = some o) : ∀ j u, (encO o)[j]? = some u → (ops.flatMap encO)[i.toNat * 4 + j]? = some u :=
  flat_at encO 4 (fun _ => rfl) ops _ o h
theorem IntPush2 (l : Nat) (m f : Int) (A : Option Addr) (n c : Nat) (cs : List Value) (t : Int) (W w : World) (L : List As) (hS : Sat W w (pto l (.cells #[.int .i64 m, .int .i64 f, .slice A n c] 103) :: row 3 1 (.slice A n c) n cs :: L)) (h0 : 0 ≤ f) (h1 : f + n ≤ 9223372036854770000) (hn : n < 1000000) (hone : ∀ u ∈ cs, u.oneCell' = true) :
    Calls Try.prog 19 #[.pointer (some ⟨l, 0, none⟩), .int .i64 t] w fun e w' => e = .returned (.int .i64 (f + n)) ∧ ∃ (f2 : Int) (n2 : Nat) (A2 : Option Addr) (c2 : Nat), Sat W w' (pto l (.cells #[.int .i64 m, .int .i64 f2, .slice A2 n2 c2] 103) :: row 3 1 (.slice A2 n2 c2) n2 ((cs ++ [Value.int .i64 t]).drop (n + 1 - n2)) :: L) ∧
      ((m < n + 1 ∧ f2 = f + 1 ∧ n2 = n) ∨ (¬ m < n + 1 ∧ f2 = f ∧ n2 = n + 1)) ∧ ∀ u ∈ (cs ++ [Value.int .i64 t]).drop (n + 1 - n2), u.oneCell' = true :=
  (IntPush_calls l m f A n c cs t W w L hS h0 h1 hn hone).mono fun e w' ⟨he, hq⟩ => by
    have ho : ∀ u ∈ cs ++ [Value.int .i64 t], u.oneCell' = true := fun u hu => by
      rcases List.mem_append.1 hu with hu | hu
      · exact hone u hu
      · simp at hu; subst hu; rfl
    refine ⟨he, ?_⟩
    by_cases h : m < n + 1
    · rw [if_pos h] at hq
      obtain ⟨A2, c2, hS⟩ := hq
      refine ⟨f + 1, n, A2, c2, ?_, .inl ⟨h, rfl, rfl⟩, fun u hu => ho u (List.mem_of_mem_drop hu)⟩
      rw [show n + 1 - n = 1 from by omega]; exact hS
    · rw [if_neg h] at hq
      obtain ⟨A2, c2, hS⟩ := hq
      refine ⟨f, n + 1, A2, c2, ?_, .inr ⟨h, rfl, rfl⟩, fun u hu => ho u (List.mem_of_mem_drop hu)⟩
      rw [show n + 1 - (n + 1) = 0 from by omega]; exact hS
theorem IntTrim2 (l : Nat) (m f : Int) (A : Option Addr) (n c : Nat) (cs : List Value) (i : Int) (W w : World) (L : List As) (hS : Sat W w (pto l (.cells #[.int .i64 m, .int .i64 f, .slice A n c] 103) :: row 3 1 (.slice A n c) n cs :: L)) (h0 : 0 ≤ f) (h1 : f + n ≤ 9223372036854775800) (hn : n ≤ 1000000) (hone : ∀ u ∈ cs, u.oneCell' = true) (hi0 : -9223372036854775808 ≤ i) (hi1 : i ≤ 9223372036854775807) :
    Calls Try.prog 20 #[.pointer (some ⟨l, 0, none⟩), .int .i64 i] w fun e w' => ∃ (k f2 : Int) (n2 : Nat) (A2 : Option Addr) (c2 : Nat), e = .returned (.int .i64 k) ∧ Sat W w' (pto l (.cells #[.int .i64 m, .int .i64 f2, .slice A2 n2 c2] 103) :: row 3 1 (.slice A2 n2 c2) n2 (cs.drop k.toNat) :: L) ∧
      ((i ≤ f ∧ k = 0) ∨ (f < i ∧ k = min (i - f) n)) ∧ f2 = f + k ∧ n2 = n - k.toNat ∧ ∀ u ∈ cs.drop k.toNat, u.oneCell' = true :=
  (IntTrim_calls l m f A n c cs i W w L hS h0 h1 hn hone hi0 hi1).mono fun e w' hq => by
    by_cases h : i ≤ f
    · rw [if_pos h] at hq
      obtain ⟨he, hS⟩ := hq
      exact ⟨0, f, n, A, c, he, by simpa using hS, .inl ⟨h, rfl⟩, by omega, by simp, fun u hu => hone u (List.mem_of_mem_drop hu)⟩
    · rw [if_neg h] at hq
      obtain ⟨he, A2, c2, hS⟩ := hq
      exact ⟨_, _, _, A2, c2, he, hS, .inr ⟨by omega, rfl⟩, rfl, rfl, fun u hu => hone u (List.mem_of_mem_drop hu)⟩

set_option maxRecDepth 100000 in
theorem fixed_calls (W : World)   : Calls Try.prog 15 #[] W fun e w' => e = .returned (.bool true) ∧ Sat W w' [] := by
  refine enter Try.func15 rfl rfl rfl .nil ?_
  intro a hA
  have hS := Sat.start W
  refine wp_seq_k fun k1 hk1 => ?_
  refine wp_region_lit ?_
  refine go1 hA rfl rfl rfl (r_assign (hA.ev rfl)) ?_; clear hA a; intro a hA
  refine wpList_nil ?_
  refine hk1 _ _ ?_
  clear hk1 k1
  refine wp_seq_k fun k2 hk2 => ?_
  refine wp_region_lit ?_
  refine goF hA rfl T.en16 rfl (IntNew_calls _ _ _ _ _ hS) ?_
  clear hA a; clear hS; rintro e w ⟨l, rfl, hS⟩; rw [show min (max (2 : Int) 0) 64 = 2 from by omega, show min (max (5 : Int) 0) 4611686018427387904 = 5 from by omega] at hS
  refine ⟨_, rfl, ?_⟩; intro a hA
  refine go1 hA rfl rfl rfl (r_assign (hA.ev rfl)) ?_; clear hA a; intro a hA
  refine wpList_nil ?_
  refine hk2 _ _ ?_
  clear hk2 k2
  replace hA := hA.keep (.cons (i := 0) rfl (.cons (i := 1) rfl .nil))
  refine wp_seq_k fun k3 hk3 => ?_
  refine wp_seq_k fun k4 hk4 => ?_
  refine wp_region_lit ?_
  refine go1 hA rfl rfl rfl (r_move (hA.ev rfl)) ?_; clear hA a; intro a hA
  refine go1 hA rfl rfl rfl (r_eqpn (hA.ev rfl) (hA.ev rfl) T.un30) ?_; clear hA a; intro a hA
  refine go1 hA rfl rfl rfl (r_move (hA.ev rfl)) ?_; clear hA a; intro a hA
  refine go1y hA (wanted_yes hA rfl rfl rfl) rfl rfl (r_move (hA.ev rfl)) ?_; clear hA a; intro a hA
  refine goFy hA (wanted_yes hA rfl rfl rfl) rfl T.en19 rfl (IntPush_calls _ _ _ _ _ _ _ _ _ _ _ hS (by omega) (by omega) (by omega) (by simp [Value.oneCell'])) ?_
  clear hA a; clear hS; rintro e w ⟨rfl, hq⟩; rw [if_neg (by omega)] at hq; obtain ⟨A1, c1, hS⟩ := hq
  refine ⟨_, rfl, ?_⟩; intro a hA
  refine go1y hA (wanted_yes hA rfl rfl rfl) rfl rfl (as_f (r_neq (hA.ev rfl) (hA.ev rfl)) (by omega)) ?_; clear hA a; intro a hA
  refine go1 hA rfl rfl rfl (r_pick_f (hA.ev rfl) (hA.ev rfl)) ?_; clear hA a; intro a hA
  refine go1 hA rfl rfl rfl (r_move (hA.ev rfl)) ?_; clear hA a; intro a hA
  refine go1y hA (wanted_yes hA rfl rfl rfl) rfl rfl (r_move (hA.ev rfl)) ?_; clear hA a; intro a hA
  refine goFy hA (wanted_yes hA rfl rfl rfl) rfl T.en19 rfl (IntPush_calls _ _ _ _ _ _ _ _ _ _ _ hS (by omega) (by omega) (by omega) (by simp [Value.oneCell'])) ?_
  clear hA a; clear hS; rintro e w ⟨rfl, hq⟩; rw [if_neg (by omega)] at hq; obtain ⟨A1, c1, hS⟩ := hq
  refine ⟨_, rfl, ?_⟩; intro a hA
  refine go1y hA (wanted_yes hA rfl rfl rfl) rfl rfl (as_f (r_neq (hA.ev rfl) (hA.ev rfl)) (by omega)) ?_; clear hA a; intro a hA
  refine go1 hA rfl rfl rfl (r_pick_f (hA.ev rfl) (hA.ev rfl)) ?_; clear hA a; intro a hA
  refine go1 hA rfl rfl rfl (r_move (hA.ev rfl)) ?_; clear hA a; intro a hA
  refine go1y hA (wanted_yes hA rfl rfl rfl) rfl rfl (r_move (hA.ev rfl)) ?_; clear hA a; intro a hA
  refine goFy hA (wanted_yes hA rfl rfl rfl) rfl T.en19 rfl (IntPush_calls _ _ _ _ _ _ _ _ _ _ _ hS (by omega) (by omega) (by omega) (by simp [Value.oneCell'])) ?_
  clear hA a; clear hS; rintro e w ⟨rfl, hq⟩; rw [if_pos (by omega)] at hq; obtain ⟨A1, c1, hS⟩ := hq
  refine ⟨_, rfl, ?_⟩; intro a hA
  refine go1y hA (wanted_yes hA rfl rfl rfl) rfl rfl (as_f (r_neq (hA.ev rfl) (hA.ev rfl)) (by omega)) ?_; clear hA a; intro a hA
  refine go1 hA rfl rfl rfl (r_pick_f (hA.ev rfl) (hA.ev rfl)) ?_; clear hA a; intro a hA
  refine wpList_nil ?_
  refine hk4 _ _ ?_
  clear hk4 k4
  replace hA := hA.keep (.cons (i := 0) rfl (.cons (i := 1) rfl (.cons (i := 23) rfl .nil)))
  refine wp_cond_false (hA.ev rfl) ?_
  refine wp_skip ?_
  refine hk3 _ _ ?_
  clear hk3 k3
  replace hA := hA.keep (.cons (i := 0) rfl (.cons (i := 1) rfl .nil))
  refine wp_seq_k fun k5 hk5 => ?_
  refine wp_region_lit ?_
  refine go1 hA rfl rfl rfl (r_move (hA.ev rfl)) ?_; clear hA a; intro a hA
  refine goF hA rfl T.en53 rfl (IntAt_calls _ _ _ _ _ _ _ _ _ _ _ hS (by omega) (by omega) (by omega) (by simp [Value.oneCell']) (by omega) (by omega)) ?_
  clear hA a; clear hS; rintro e w ⟨hS, hq⟩; rw [if_neg (by omega)] at hq; obtain ⟨u, hu, rfl⟩ := hq; obtain rfl : Value.int .i64 8 = u := by simpa using hu
  refine ⟨_, rfl, ?_⟩; intro a hA
  refine go1 hA rfl rfl rfl (r_move (hA.ev rfl)) ?_; clear hA a; intro a hA
  refine go1 hA rfl rfl rfl (r_ext (hA.ev rfl) rfl) ?_; clear hA a; intro a hA
  refine go1 hA rfl rfl rfl (r_ext (hA.ev rfl) rfl) ?_; clear hA a; intro a hA
  refine go1 hA rfl rfl rfl (r_assign (hA.ev rfl)) ?_; clear hA a; intro a hA
  refine go1 hA rfl rfl rfl (r_assign (hA.ev rfl)) ?_; clear hA a; intro a hA
  refine wpList_nil ?_
  refine hk5 _ _ ?_
  clear hk5 k5
  replace hA := hA.keep (.cons (i := 0) rfl (.cons (i := 1) rfl (.cons (i := 2) rfl (.cons (i := 3) rfl .nil))))
  refine wp_seq_k fun k6 hk6 => ?_
  refine wp_region_lit ?_
  refine go1 hA rfl rfl rfl (r_move (hA.ev rfl)) ?_; clear hA a; intro a hA
  refine goF hA rfl T.en44 rfl (IntFrom_calls _ _ _ _ _ _ _ _ _ _ _ hS (by omega) (by omega) (by omega) (by simp [Value.oneCell']) (by omega) (by omega)) ?_
  clear hA a; clear hS; intro e w hq; rw [if_neg (by omega)] at hq; obtain ⟨A2, c2, rfl, hS⟩ := hq; obtain ⟨p, rfl⟩ : ∃ p, A2 = some p := hS.rd.hasAddr (by omega)
  refine ⟨_, rfl, ?_⟩; intro a hA
  refine go1 hA rfl rfl rfl (r_move (hA.ev rfl)) ?_; clear hA a; intro a hA
  refine go1 hA rfl rfl rfl (r_ext (hA.ev rfl) rfl) ?_; clear hA a; intro a hA
  refine go1 hA rfl rfl rfl (r_ext (hA.ev rfl) rfl) ?_; clear hA a; intro a hA
  refine go1 hA rfl rfl rfl (r_assign (hA.ev rfl)) ?_; clear hA a; intro a hA
  refine go1 hA rfl rfl rfl (r_assign (hA.ev rfl)) ?_; clear hA a; intro a hA
  refine wpList_nil ?_
  refine hk6 _ _ ?_
  clear hk6 k6
  replace hA := hA.keep (.cons (i := 0) rfl (.cons (i := 1) rfl (.cons (i := 2) rfl (.cons (i := 3) rfl (.cons (i := 4) rfl (.cons (i := 5) rfl .nil))))))
  refine wp_seq_k fun k7 hk7 => ?_
  refine wp_region_lit ?_
  refine go1 hA rfl rfl rfl (r_move (hA.ev rfl)) ?_; clear hA a; intro a hA
  refine go1 hA rfl rfl rfl (r_move (hA.ev rfl)) ?_; clear hA a; intro a hA
  refine go1y hA (wanted_yes hA rfl rfl rfl) rfl rfl (r_move (hA.ev rfl)) ?_; clear hA a; intro a hA
  refine go1y hA (wanted_yes hA rfl rfl rfl) rfl rfl (as_t (r_eql (hA.ev rfl) (hA.ev rfl)) (by omega)) ?_; clear hA a; intro a hA
  refine go1 hA rfl rfl rfl (r_pick_t (hA.ev rfl) (hA.ev rfl)) ?_; clear hA a; intro a hA
  refine go1 hA rfl rfl rfl (r_move (hA.ev rfl)) ?_; clear hA a; intro a hA
  refine go1y hA (wanted_yes hA rfl rfl rfl) rfl rfl (r_move (hA.ev rfl)) ?_; clear hA a; intro a hA
  refine goFy hA (wanted_yes hA rfl rfl rfl) rfl T.en18 rfl (IntFirst_calls _ _ _ _ _ _ _ _ _ hS.pull1) ?_
  clear hA a; clear hS; rintro e w ⟨rfl, hS⟩
  refine ⟨_, rfl, ?_⟩; intro a hA
  refine go1y hA (wanted_yes hA rfl rfl rfl) rfl rfl (as_t (r_eql (hA.ev rfl) (hA.ev rfl)) (by omega)) ?_; clear hA a; intro a hA
  refine go1 hA rfl rfl rfl (r_pick_t (hA.ev rfl) (hA.ev rfl)) ?_; clear hA a; intro a hA
  refine go1 hA rfl rfl rfl (r_move (hA.ev rfl)) ?_; clear hA a; intro a hA
  refine go1y hA (wanted_yes hA rfl rfl rfl) rfl rfl (r_move (hA.ev rfl)) ?_; clear hA a; intro a hA
  refine goFy hA (wanted_yes hA rfl rfl rfl) rfl T.en17 rfl (IntNext_calls _ _ _ _ _ _ _ _ _ hS (by omega) (by omega)) ?_
  clear hA a; clear hS; rintro e w ⟨rfl, hS⟩
  refine ⟨_, rfl, ?_⟩; intro a hA
  refine go1y hA (wanted_yes hA rfl rfl rfl) rfl rfl (as_t (r_eql (hA.ev rfl) (hA.ev rfl)) (by omega)) ?_; clear hA a; intro a hA
  refine go1 hA rfl rfl rfl (r_pick_t (hA.ev rfl) (hA.ev rfl)) ?_; clear hA a; intro a hA
  refine go1 hA rfl rfl rfl (r_move (hA.ev rfl)) ?_; clear hA a; intro a hA
  refine go1y hA (wanted_yes hA rfl rfl rfl) rfl rfl (r_move (hA.ev rfl)) ?_; clear hA a; intro a hA
  refine go1 hA rfl rfl rfl (r_pick_t (hA.ev rfl) (hA.ev rfl)) ?_; clear hA a; intro a hA
  refine go1 hA rfl rfl rfl (r_move (hA.ev rfl)) ?_; clear hA a; intro a hA
  refine go1y hA (wanted_yes hA rfl rfl rfl) rfl rfl (r_move (hA.ev rfl)) ?_; clear hA a; intro a hA
  refine go1y hA (wanted_yes hA rfl rfl rfl) rfl rfl (r_lens (hA.ev rfl) T.un54) ?_; clear hA a; intro a hA
  refine go1y hA (wanted_yes hA rfl rfl rfl) rfl rfl (as_t (r_eql (hA.ev rfl) (hA.ev rfl)) (by omega)) ?_; clear hA a; intro a hA
  refine go1 hA rfl rfl rfl (r_pick_t (hA.ev rfl) (hA.ev rfl)) ?_; clear hA a; intro a hA
  refine go1 hA rfl rfl rfl (r_move (hA.ev rfl)) ?_; clear hA a; intro a hA
  refine go1y hA (wanted_yes hA rfl rfl rfl) rfl rfl (r_move (hA.ev rfl)) ?_; clear hA a; intro a hA
  refine go1y hA (wanted_yes hA rfl rfl rfl) rfl rfl (r_index (hA.ev rfl) (hA.ev rfl) T.un54 T.sz3 (by omega) (by omega)) ?_; clear hA a; intro a hA
  refine go1y hA (wanted_yes hA rfl rfl rfl) rfl rfl (r_load (hA.ev rfl) T.fl3 (hS.pull1.rd.cell (u := .int .i64 8) (by simp))) ?_; clear hA a; intro a hA
  refine go1y hA (wanted_yes hA rfl rfl rfl) rfl rfl (as_t (r_eql (hA.ev rfl) (hA.ev rfl)) (by omega)) ?_; clear hA a; intro a hA
  refine go1 hA rfl rfl rfl (r_pick_t (hA.ev rfl) (hA.ev rfl)) ?_; clear hA a; intro a hA
  refine go1 hA rfl rfl rfl (r_move (hA.ev rfl)) ?_; clear hA a; intro a hA
  refine go1y hA (wanted_yes hA rfl rfl rfl) rfl rfl (r_move (hA.ev rfl)) ?_; clear hA a; intro a hA
  refine go1y hA (wanted_yes hA rfl rfl rfl) rfl rfl (r_index (hA.ev rfl) (hA.ev rfl) T.un54 T.sz3 (by omega) (by omega)) ?_; clear hA a; intro a hA
  refine go1y hA (wanted_yes hA rfl rfl rfl) rfl rfl (r_load (hA.ev rfl) T.fl3 (hS.pull1.rd.cell (u := .int .i64 9) (by simp))) ?_; clear hA a; intro a hA
  refine go1y hA (wanted_yes hA rfl rfl rfl) rfl rfl (as_t (r_eql (hA.ev rfl) (hA.ev rfl)) (by omega)) ?_; clear hA a; intro a hA
  refine go1 hA rfl rfl rfl (r_pick_t (hA.ev rfl) (hA.ev rfl)) ?_; clear hA a; intro a hA
  refine go1 hA rfl rfl rfl (r_assign (hA.ev rfl)) ?_; clear hA a; intro a hA
  refine wpList_nil ?_
  refine hk7 _ _ ?_
  clear hk7 k7
  replace hA := hA.keep (.cons (i := 0) rfl .nil)
  refine wp_ret ?_
  refine end1 hA rfl rfl ?_
  exact ⟨rfl, hS.nil⟩
set_option maxRecDepth 100000 in
theorem DlogNumbers_calls (W : World) (m1 s1 m2 s2 : Int) (A : Option Addr) (c : Nat) (ops : List OpD)  (hR : Rd W 4 (.slice A ops.length c) ops.length (ops.flatMap encO)) (hlen : ops.length ≤ 140737488355328) (hw : ∀ o ∈ ops, -9223372036854775808 ≤ o.n ∧ o.n ≤ 9223372036854775807) : Calls Try.prog 4 #[.agg #[.int .i64 m1, .int .i64 s1, .int .i64 m2, .int .i64 s2, .slice A ops.length c]] W fun e w' => e = .returned (.bool true) ∧ Sat W w' [] := by
  refine enter Try.func4 rfl rfl rfl (.cons (i := 0) rfl .nil) ?_
  intro a hA
  have hS := Sat.start W
  refine wp_seq_k fun k1 hk1 => ?_
  refine wp_region_lit ?_
  refine goB hA rfl rfl hS ?_
  clear hA a hS; intro b1 w hS a hA
  refine go1 hA rfl rfl rfl (r_assign (hA.ev rfl)) ?_; clear hA a; intro a hA
  refine wpList_nil ?_
  refine hk1 _ _ ?_
  clear hk1 k1
  replace hA := hA.keep (.cons (i := 1) rfl (.cons (i := 2) rfl .nil))
  refine wp_seq_k fun k2 hk2 => ?_
  refine wp_seq_k fun k3 hk3 => ?_
  refine wp_region_lit ?_
  refine goF hA rfl T.en15 rfl (fixed_calls _) ?_
  clear hA a; rintro e w ⟨rfl, hT⟩; replace hS : Sat _ _ _ := hS.rebase hT; clear hT
  refine ⟨_, rfl, ?_⟩; intro a hA
  refine go1 hA rfl rfl rfl (r_not (hA.ev rfl)) ?_; clear hA a; intro a hA
  refine wpList_nil ?_
  refine hk3 _ _ ?_
  clear hk3 k3
  replace hA := hA.keep (.cons (i := 1) rfl (.cons (i := 2) rfl (.cons (i := 12) rfl .nil)))
  refine wp_cond_false (hA.ev rfl) ?_
  refine wp_skip ?_
  refine hk2 _ _ ?_
  clear hk2 k2
  replace hA := hA.keep (.cons (i := 1) rfl (.cons (i := 2) rfl .nil))
  refine wp_seq_k fun k4 hk4 => ?_
  refine wp_region_lit ?_
  refine go1 hA rfl rfl rfl (r_field (hA.ev rfl) T.fo28_0) ?_; clear hA a; intro a hA
  refine go1 hA rfl rfl rfl (r_load (hA.ev rfl) T.fl3 (by first | exact hS.cell rfl | exact (hS.p 1).cell rfl | exact (hS.p 2).cell rfl | exact (hS.p 3).cell rfl)) ?_; clear hA a; intro a hA
  refine go1 hA rfl rfl rfl (r_field (hA.ev rfl) T.fo28_1) ?_; clear hA a; intro a hA
  refine go1 hA rfl rfl rfl (r_load (hA.ev rfl) T.fl3 (by first | exact hS.cell rfl | exact (hS.p 1).cell rfl | exact (hS.p 2).cell rfl | exact (hS.p 3).cell rfl)) ?_; clear hA a; intro a hA
  refine goF hA rfl T.en16 rfl (IntNew_calls _ _ _ _ _ hS) ?_
  clear hA a; clear hS; rintro e w ⟨l, rfl, hS⟩; obtain ⟨M, hM⟩ : ∃ M, M = min (max m1 0) 64 := ⟨_, rfl⟩; obtain ⟨f0, hf0⟩ : ∃ f0, f0 = min (max s1 0) 4611686018427387904 := ⟨_, rfl⟩; rw [← hM, ← hf0] at hS
  refine ⟨_, rfl, ?_⟩; intro a hA
  refine go1 hA rfl rfl rfl (r_assign (hA.ev rfl)) ?_; clear hA a; intro a hA
  refine wpList_nil ?_
  refine hk4 _ _ ?_
  clear hk4 k4
  replace hA := hA.keep (.cons (i := 1) rfl (.cons (i := 2) rfl (.cons (i := 3) rfl .nil)))
  refine wp_seq_k fun k5 hk5 => ?_
  refine wp_seq_k fun k6 hk6 => ?_
  refine wp_region_lit ?_
  refine go1 hA rfl rfl rfl (r_move (hA.ev rfl)) ?_; clear hA a; intro a hA
  refine go1 hA rfl rfl rfl (r_eqpn (hA.ev rfl) (hA.ev rfl) T.un30) ?_; clear hA a; intro a hA
  refine wpList_nil ?_
  refine hk6 _ _ ?_
  clear hk6 k6
  replace hA := hA.keep (.cons (i := 1) rfl (.cons (i := 2) rfl (.cons (i := 3) rfl (.cons (i := 19) rfl .nil))))
  refine wp_cond_false (hA.ev rfl) ?_
  refine wp_skip ?_
  refine hk5 _ _ ?_
  clear hk5 k5
  replace hA := hA.keep (.cons (i := 1) rfl (.cons (i := 2) rfl (.cons (i := 3) rfl .nil)))
  refine wp_seq_k fun k7 hk7 => ?_
  refine wp_region_lit ?_
  refine go1 hA rfl rfl rfl (r_field (hA.ev rfl) T.fo28_0) ?_; clear hA a; intro a hA
  refine go1 hA rfl rfl rfl (r_load (hA.ev rfl) T.fl3 (by first | exact hS.cell rfl | exact (hS.p 1).cell rfl | exact (hS.p 2).cell rfl | exact (hS.p 3).cell rfl)) ?_; clear hA a; intro a hA
  refine go1 hA rfl rfl rfl (r_max2 (hA.ev rfl) (hA.ev rfl)) ?_; clear hA a; intro a hA
  refine go1 hA rfl rfl rfl (r_min2 (hA.ev rfl) (hA.ev rfl)) ?_; clear hA a; intro a hA
  refine go1 hA rfl rfl rfl (r_assign (hA.ev rfl)) ?_; clear hA a; intro a hA
  refine wpList_nil ?_
  refine hk7 _ _ ?_
  clear hk7 k7
  replace hA := hA.keep (.cons (i := 1) rfl (.cons (i := 2) rfl (.cons (i := 3) rfl (.cons (i := 4) rfl .nil))))
  refine wp_seq_k fun k8 hk8 => ?_
  refine wp_region_lit ?_
  refine go1 hA rfl rfl rfl (r_move (hA.ev rfl)) ?_; clear hA a; intro a hA
  refine goF hA rfl T.en17 rfl (IntNext_calls _ _ _ _ _ _ _ _ _ hS (by omega) (by omega)) ?_
  clear hA a; clear hS; rintro e w ⟨rfl, hS⟩
  refine ⟨_, rfl, ?_⟩; intro a hA
  refine go1 hA rfl rfl rfl (r_move (hA.ev rfl)) ?_; clear hA a; intro a hA
  refine goF hA rfl T.en18 rfl (IntFirst_calls _ _ _ _ _ _ _ _ _ hS) ?_
  clear hA a; clear hS; rintro e w ⟨rfl, hS⟩
  refine ⟨_, rfl, ?_⟩; intro a hA
  refine go1 hA rfl rfl rfl (r_assign (hA.ev rfl)) ?_; clear hA a; intro a hA
  refine go1 hA rfl rfl rfl (r_assign (hA.ev rfl)) ?_; clear hA a; intro a hA
  refine wpList_nil ?_
  refine hk8 _ _ ?_
  clear hk8 k8
  replace hA := hA.keep (.cons (i := 1) rfl (.cons (i := 2) rfl (.cons (i := 3) rfl (.cons (i := 4) rfl (.cons (i := 5) rfl (.cons (i := 6) rfl .nil))))))
  refine wp_seq_k fun k9 hk9 => ?_
  refine wp_seq_k fun k10 hk10 => ?_
  refine wp_region_lit ?_
  refine go1 hA rfl rfl rfl (r_move (hA.ev rfl)) ?_; clear hA a; intro a hA
  refine go1 hA rfl rfl rfl (r_move (hA.ev rfl)) ?_; clear hA a; intro a hA
  refine go1 hA rfl rfl rfl (as_f (r_neq (hA.ev rfl) (hA.ev rfl)) (by omega)) ?_; clear hA a; intro a hA
  refine go1 hA rfl rfl rfl (r_move (hA.ev rfl)) ?_; clear hA a; intro a hA
  refine go1y hA (wanted_yes hA rfl rfl rfl) rfl rfl (r_move (hA.ev rfl)) ?_; clear hA a; intro a hA
  refine go1y hA (wanted_yes hA rfl rfl rfl) rfl rfl (r_field (hA.ev rfl) T.fo28_1) ?_; clear hA a; intro a hA
  refine go1y hA (wanted_yes hA rfl rfl rfl) rfl rfl (r_load (hA.ev rfl) T.fl3 (by first | exact hS.cell rfl | exact (hS.p 1).cell rfl | exact (hS.p 2).cell rfl | exact (hS.p 3).cell rfl)) ?_; clear hA a; intro a hA
  refine go1y hA (wanted_yes hA rfl rfl rfl) rfl rfl (r_max2 (hA.ev rfl) (hA.ev rfl)) ?_; clear hA a; intro a hA
  refine go1y hA (wanted_yes hA rfl rfl rfl) rfl rfl (r_min2 (hA.ev rfl) (hA.ev rfl)) ?_; clear hA a; intro a hA
  refine go1y hA (wanted_yes hA rfl rfl rfl) rfl rfl (as_f (r_neq (hA.ev rfl) (hA.ev rfl)) (by omega)) ?_; clear hA a; intro a hA
  refine go1 hA rfl rfl rfl (r_pick_f (hA.ev rfl) (hA.ev rfl)) ?_; clear hA a; intro a hA
  refine wpList_nil ?_
  refine hk10 _ _ ?_
  clear hk10 k10
  replace hA := hA.keep (.cons (i := 1) rfl (.cons (i := 2) rfl (.cons (i := 3) rfl (.cons (i := 4) rfl (.cons (i := 5) rfl (.cons (i := 6) rfl (.cons (i := 38) rfl .nil)))))))
  refine wp_cond_false (hA.ev rfl) ?_
  refine wp_skip ?_
  refine hk9 _ _ ?_
  clear hk9 k9
  replace hA := hA.keep (.cons (i := 1) rfl (.cons (i := 2) rfl (.cons (i := 3) rfl (.cons (i := 4) rfl (.cons (i := 5) rfl (.cons (i := 6) rfl .nil))))))
  refine wp_seq_k fun k11 hk11 => ?_
  refine wp_seq_k fun k12 hk12 => ?_
  refine wp_region_lit ?_
  refine go1 hA rfl rfl rfl (r_assign (hA.ev rfl)) ?_; clear hA a; intro a hA
  refine wpList_nil ?_
  refine hk12 _ _ ?_
  clear hk12 k12
  refine wp_block ?_
  refine wp_loop_ghost (fun (mm : Nat) a w => ∃ (i nx ft f : Int) (n' c' : Nat) (A' : Option Addr) (cs' : List Value), Ag a 146 [(1, .pointer (some ⟨b1, 0, none⟩)), (3, .pointer (some ⟨l, 0, none⟩)), (4, .int .i64 M), (5, .int .i64 nx), (6, .int .i64 ft), (7, .int .i64 i)] ∧ Sat W w [pto l (.cells #[.int .i64 M, .int .i64 f, .slice A' n' c'] 103), row 3 1 (.slice A' n' c') n' cs', pto b1 (.cells #[.int .i64 m1, .int .i64 s1, .int .i64 m2, .int .i64 s2, .slice A ops.length c] 28)] ∧ 0 ≤ i ∧ i ≤ ops.length ∧ mm = (ops.length - i).toNat ∧ nx = f + n' ∧ ft = f ∧ 0 ≤ f ∧ f + n' ≤ 4611686018427387904 + i ∧ n' ≤ M ∧ ∀ u ∈ cs', u.oneCell' = true) ops.length ?_ ?_
  · replace hA := hA.keep (.cons (i := 1) rfl (.cons (i := 3) rfl (.cons (i := 4) rfl (.cons (i := 5) rfl (.cons (i := 6) rfl (.cons (i := 7) rfl .nil))))))
    rw [← hM] at hA
    exact ⟨0, _, _, _, _, _, _, _, hA, hS, by omega, by omega, by omega, rfl, by omega, by omega, by omega, by omega, by simp⟩
  intro m a w hI
  obtain ⟨i, nx, ft, f, n', c', A', cs', hA, hS, hi0, hi1, rfl, hnx, hft, hf, hfn, hn, hone⟩ := hI
  refine wp_seq_k fun k13 hk13 => ?_
  refine wp_seq_k fun k14 hk14 => ?_
  refine wp_region_lit ?_
  refine go1 hA rfl rfl rfl (r_move (hA.ev rfl)) ?_; clear hA a; intro a hA
  refine go1 hA rfl rfl rfl (r_field (hA.ev rfl) T.fo28_4) ?_; clear hA a; intro a hA
  refine go1 hA rfl rfl rfl (r_load (hA.ev rfl) T.fl26 (by first | exact hS.cell rfl | exact (hS.p 1).cell rfl | exact (hS.p 2).cell rfl | exact (hS.p 3).cell rfl)) ?_; clear hA a; intro a hA
  refine go1 hA rfl rfl rfl (r_lens (hA.ev rfl) T.un26) ?_; clear hA a; intro a hA
  refine go1s hA rfl rfl rfl (r_lss (hA.ev rfl) (hA.ev rfl)) ?_ ?_
  · clear hA a; intro h43 a hA
    obtain ⟨p, rfl⟩ : ∃ p, A = some p := hR.hasAddr (by omega)
    obtain ⟨o, ho⟩ : ∃ o, ops[i.toNat]? = some o := ⟨_, List.getElem?_eq_getElem (by omega)⟩
    have ⟨hw0, hw1⟩ := hw o (List.mem_of_getElem? ho)
    refine wpList_nil ?_
    refine hk14 _ _ ?_
    clear hk14 k14
    refine wp_cond_true (hA.ev rfl) ?_
    refine wp_skip ?_
    refine hk13 _ _ ?_
    clear hk13 k13
    refine wp_seq_k fun k15 hk15 => ?_
    refine wp_block ?_
    refine wp_seq_k fun k16 hk16 => ?_
    refine wp_region_lit ?_
    refine go1 hA rfl rfl rfl (r_field (hA.ev rfl) T.fo28_4) ?_; clear hA a; intro a hA
    refine go1 hA rfl rfl rfl (r_load (hA.ev rfl) T.fl26 (by first | exact hS.cell rfl | exact (hS.p 1).cell rfl | exact (hS.p 2).cell rfl | exact (hS.p 3).cell rfl)) ?_; clear hA a; intro a hA
    refine go1 hA rfl rfl rfl (r_move (hA.ev rfl)) ?_; clear hA a; intro a hA
    refine go1 hA rfl rfl rfl (r_index (hA.ev rfl) (hA.ev rfl) T.un26 T.sz34 (by omega) (by omega)) ?_; clear hA a; intro a hA
    refine go1 hA rfl rfl rfl (r_loadS (cs := encO o) (hA.ev rfl) T.ag34 T.sz34 ((hR.sat hS).elem (op_at ho))) ?_; clear hA a; intro a hA
    refine goN hA rfl T.zv34 hS ?_
    clear hA a hS; intro b8 w hS a hA
    refine goWS hA (vs := [_, _, _, _]) rfl rfl T.sz34 (by simp [Value.oneCell']) hS (by simp) ?_
    clear hS; intro w hS
    replace hS := hS.pull2.pull2
    refine wpList_nil ?_
    refine hk16 _ _ ?_
    clear hk16 k16
    refine wp_seq_k fun k17 hk17 => ?_
    refine wp_seq_k fun k18 hk18 => ?_
    refine wp_region_lit ?_
    refine go1 hA rfl rfl rfl (r_field (hA.ev rfl) T.fo34_0) ?_; clear hA a; intro a hA
    refine go1 hA rfl rfl rfl (r_load (hA.ev rfl) T.fl3 (by first | exact hS.cell rfl | exact (hS.p 1).cell rfl | exact (hS.p 2).cell rfl | exact (hS.p 3).cell rfl)) ?_; clear hA a; intro a hA
    refine wpList_nil ?_
    refine hk18 _ _ ?_
    clear hk18 k18
    refine wp_block ?_
    refine wp_seq_k fun k19 hk19 => ?_
    refine wp_region_lit ?_
    refine go1s hA rfl rfl rfl (r_eql (hA.ev rfl) (hA.ev rfl)) ?_ ?_
    · clear hA a; intro h54 a hA
      refine go1 hA rfl rfl rfl (r_assign (hA.ev rfl)) ?_; clear hA a; intro a hA
      refine wpList_nil ?_
      refine hk19 _ _ ?_
      clear hk19 k19
      refine wp_cond_true (hA.ev rfl) ?_
      refine wp_seq_k fun k20 hk20 => ?_
      refine wp_region_lit ?_
      refine go1 hA rfl rfl rfl (r_move (hA.ev rfl)) ?_; clear hA a; intro a hA
      refine goF hA rfl T.en17 rfl (IntNext_calls _ _ _ _ _ _ _ _ _ hS (by omega) (by omega)) ?_
      clear hA a; clear hS; rintro e w ⟨rfl, hS⟩
      refine ⟨_, rfl, ?_⟩; intro a hA
      refine go1 hA rfl rfl rfl (r_move (hA.ev rfl)) ?_; clear hA a; intro a hA
      refine goF hA rfl T.en18 rfl (IntFirst_calls _ _ _ _ _ _ _ _ _ hS) ?_
      clear hA a; clear hS; rintro e w ⟨rfl, hS⟩
      refine ⟨_, rfl, ?_⟩; intro a hA
      refine go1 hA rfl rfl rfl (r_sub64 (hA.ev rfl) (hA.ev rfl) (by omega) (by omega)) ?_; clear hA a; intro a hA
      refine go1 hA rfl rfl rfl (r_assign (hA.ev rfl)) ?_; clear hA a; intro a hA
      refine wpList_nil ?_
      refine hk20 _ _ ?_
      clear hk20 k20
      refine wp_seq_k fun k21 hk21 => ?_
      refine wp_seq_k fun k22 hk22 => ?_
      refine wp_region_lit ?_
      refine go1 hA rfl rfl rfl (r_move (hA.ev rfl)) ?_; clear hA a; intro a hA
      refine go1 hA rfl rfl rfl (r_field (hA.ev rfl) T.fo34_3) ?_; clear hA a; intro a hA
      refine go1 hA rfl rfl rfl (r_load (hA.ev rfl) T.fl3 (by first | exact hS.cell rfl | exact (hS.p 1).cell rfl | exact (hS.p 2).cell rfl | exact (hS.p 3).cell rfl)) ?_; clear hA a; intro a hA
      refine goF hA rfl T.en19 rfl (IntPush2 _ _ _ _ _ _ _ _ _ _ _ hS (by omega) (by omega) (by omega) hone) ?_
      clear hA a; clear hS hone; rintro e w ⟨rfl, f2, n2, A2, c2, hS, hq, hone⟩
      refine ⟨_, rfl, ?_⟩; intro a hA
      refine go1 hA rfl rfl rfl (r_move (hA.ev rfl)) ?_; clear hA a; intro a hA
      refine go1 hA rfl rfl rfl (as_f (r_neq (hA.ev rfl) (hA.ev rfl)) (by omega)) ?_; clear hA a; intro a hA
      refine go1 hA rfl rfl rfl (r_move (hA.ev rfl)) ?_; clear hA a; intro a hA
      refine go1y hA (wanted_yes hA rfl rfl rfl) rfl rfl (r_move (hA.ev rfl)) ?_; clear hA a; intro a hA
      refine goFy hA (wanted_yes hA rfl rfl rfl) rfl T.en17 rfl (IntNext_calls _ _ _ _ _ _ _ _ _ hS (by omega) (by omega)) ?_
      clear hA a; clear hS; rintro e w ⟨rfl, hS⟩
      refine ⟨_, rfl, ?_⟩; intro a hA
      refine go1y hA (wanted_yes hA rfl rfl rfl) rfl rfl (r_move (hA.ev rfl)) ?_; clear hA a; intro a hA
      refine go1y hA (wanted_yes hA rfl rfl rfl) rfl rfl (r_add64 (hA.ev rfl) (hA.ev rfl) (by omega) (by omega)) ?_; clear hA a; intro a hA
      refine go1y hA (wanted_yes hA rfl rfl rfl) rfl rfl (as_f (r_neq (hA.ev rfl) (hA.ev rfl)) (by omega)) ?_; clear hA a; intro a hA
      refine go1 hA rfl rfl rfl (r_pick_f (hA.ev rfl) (hA.ev rfl)) ?_; clear hA a; intro a hA
      refine wpList_nil ?_
      refine hk22 _ _ ?_
      clear hk22 k22
      refine wp_cond_false (hA.ev rfl) ?_
      refine wp_skip ?_
      refine hk21 _ _ ?_
      clear hk21 k21
      refine wp_seq_k fun k23 hk23 => ?_
      refine wp_region_lit ?_
      refine go1 hA rfl rfl rfl (r_move (hA.ev rfl)) ?_; clear hA a; intro a hA
      refine go1 hA rfl rfl rfl (r_add64 (hA.ev rfl) (hA.ev rfl) (by omega) (by omega)) ?_; clear hA a; intro a hA
      refine go1 hA rfl rfl rfl (r_assign (hA.ev rfl)) ?_; clear hA a; intro a hA
      refine wpList_nil ?_
      refine hk23 _ _ ?_
      clear hk23 k23
      refine wp_seq_k fun k24 hk24 => ?_
      refine wp_region_lit ?_
      refine go1 hA rfl rfl rfl (r_move (hA.ev rfl)) ?_; clear hA a; intro a hA
      refine go1 hA rfl rfl rfl (r_move (hA.ev rfl)) ?_; clear hA a; intro a hA
      refine go1s hA rfl rfl rfl (r_lss (hA.ev rfl) (hA.ev rfl)) ?_ ?_
      · clear hA a; intro h77 a hA
        refine go1 hA rfl rfl rfl (r_move (hA.ev rfl)) ?_; clear hA a; intro a hA
        refine go1y hA (wanted_yes hA rfl rfl rfl) rfl rfl (r_move (hA.ev rfl)) ?_; clear hA a; intro a hA
        refine goFy hA (wanted_yes hA rfl rfl rfl) rfl T.en18 rfl (IntFirst_calls _ _ _ _ _ _ _ _ _ hS) ?_
        clear hA a; clear hS; rintro e w ⟨rfl, hS⟩
        refine ⟨_, rfl, ?_⟩; intro a hA
        refine go1y hA (wanted_yes hA rfl rfl rfl) rfl rfl (r_move (hA.ev rfl)) ?_; clear hA a; intro a hA
        refine go1y hA (wanted_yes hA rfl rfl rfl) rfl rfl (as_f (r_neq (hA.ev rfl) (hA.ev rfl)) (by omega)) ?_; clear hA a; intro a hA
        refine go1 hA rfl rfl rfl (r_pick_t (hA.ev rfl) (hA.ev rfl)) ?_; clear hA a; intro a hA
        refine go1 hA rfl rfl rfl (r_move (hA.ev rfl)) ?_; clear hA a; intro a hA
        refine go1y hA (wanted_yes hA rfl rfl rfl) rfl rfl (r_move (hA.ev rfl)) ?_; clear hA a; intro a hA
        refine go1y hA (wanted_yes hA rfl rfl rfl) rfl rfl (r_move (hA.ev rfl)) ?_; clear hA a; intro a hA
        refine go1sy hA (wanted_yes hA rfl rfl rfl) rfl rfl (r_eql (hA.ev rfl) (hA.ev rfl)) ?_ ?_
        · clear hA a; intro h87 a hA
          refine go1y hA (wanted_yes hA rfl rfl rfl) rfl rfl (r_move (hA.ev rfl)) ?_; clear hA a; intro a hA
          refine go1y hA (wanted_yes hA rfl rfl rfl) rfl rfl (r_move (hA.ev rfl)) ?_; clear hA a; intro a hA
          refine goFy hA (wanted_yes hA rfl rfl rfl) rfl T.en18 rfl (IntFirst_calls _ _ _ _ _ _ _ _ _ hS) ?_
          clear hA a; clear hS; rintro e w ⟨rfl, hS⟩
          refine ⟨_, rfl, ?_⟩; intro a hA
          refine go1y hA (wanted_yes hA rfl rfl rfl) rfl rfl (r_move (hA.ev rfl)) ?_; clear hA a; intro a hA
          refine go1y hA (wanted_yes hA rfl rfl rfl) rfl rfl (r_add64 (hA.ev rfl) (hA.ev rfl) (by omega) (by omega)) ?_; clear hA a; intro a hA
          refine go1y hA (wanted_yes hA rfl rfl rfl) rfl rfl (as_f (r_neq (hA.ev rfl) (hA.ev rfl)) (by omega)) ?_; clear hA a; intro a hA
          refine go1y hA (wanted_yes hA rfl rfl rfl) rfl rfl (r_pick_t (hA.ev rfl) (hA.ev rfl)) ?_; clear hA a; intro a hA
          refine go1 hA rfl rfl rfl (r_pick_f (hA.ev rfl) (hA.ev rfl)) ?_; clear hA a; intro a hA
          refine wpList_nil ?_
          refine hk24 _ _ ?_
          clear hk24 k24
          refine wp_cond_false (hA.ev rfl) ?_
          refine wp_skip ?_
          refine block_normal ?_
          refine hk17 _ _ ?_
          clear hk17 k17
          refine wp_seq_k fun k25 hk25 => ?_
          refine wp_seq_k fun k26 hk26 => ?_
          refine wp_region_lit ?_
          refine go1 hA rfl rfl rfl (r_move (hA.ev rfl)) ?_; clear hA a; intro a hA
          refine goF hA rfl T.en17 rfl (IntNext_calls _ _ _ _ _ _ _ _ _ hS (by omega) (by omega)) ?_
          clear hA a; clear hS; rintro e w ⟨rfl, hS⟩
          refine ⟨_, rfl, ?_⟩; intro a hA
          refine go1 hA rfl rfl rfl (r_move (hA.ev rfl)) ?_; clear hA a; intro a hA
          refine go1 hA rfl rfl rfl (as_f (r_neq (hA.ev rfl) (hA.ev rfl)) (by omega)) ?_; clear hA a; intro a hA
          refine go1 hA rfl rfl rfl (r_move (hA.ev rfl)) ?_; clear hA a; intro a hA
          refine go1y hA (wanted_yes hA rfl rfl rfl) rfl rfl (r_move (hA.ev rfl)) ?_; clear hA a; intro a hA
          refine goFy hA (wanted_yes hA rfl rfl rfl) rfl T.en18 rfl (IntFirst_calls _ _ _ _ _ _ _ _ _ hS) ?_
          clear hA a; clear hS; rintro e w ⟨rfl, hS⟩
          refine ⟨_, rfl, ?_⟩; intro a hA
          refine go1y hA (wanted_yes hA rfl rfl rfl) rfl rfl (r_move (hA.ev rfl)) ?_; clear hA a; intro a hA
          refine go1y hA (wanted_yes hA rfl rfl rfl) rfl rfl (as_f (r_lss (hA.ev rfl) (hA.ev rfl)) (by omega)) ?_; clear hA a; intro a hA
          refine go1 hA rfl rfl rfl (r_pick_f (hA.ev rfl) (hA.ev rfl)) ?_; clear hA a; intro a hA
          refine go1 hA rfl rfl rfl (r_move (hA.ev rfl)) ?_; clear hA a; intro a hA
          refine go1y hA (wanted_yes hA rfl rfl rfl) rfl rfl (r_move (hA.ev rfl)) ?_; clear hA a; intro a hA
          refine goFy hA (wanted_yes hA rfl rfl rfl) rfl T.en18 rfl (IntFirst_calls _ _ _ _ _ _ _ _ _ hS) ?_
          clear hA a; clear hS; rintro e w ⟨rfl, hS⟩
          refine ⟨_, rfl, ?_⟩; intro a hA
          refine go1y hA (wanted_yes hA rfl rfl rfl) rfl rfl (r_move (hA.ev rfl)) ?_; clear hA a; intro a hA
          refine go1y hA (wanted_yes hA rfl rfl rfl) rfl rfl (as_f (r_gtr (hA.ev rfl) (hA.ev rfl)) (by omega)) ?_; clear hA a; intro a hA
          refine go1 hA rfl rfl rfl (r_pick_f (hA.ev rfl) (hA.ev rfl)) ?_; clear hA a; intro a hA
          refine go1 hA rfl rfl rfl (r_move (hA.ev rfl)) ?_; clear hA a; intro a hA
          refine go1y hA (wanted_yes hA rfl rfl rfl) rfl rfl (r_move (hA.ev rfl)) ?_; clear hA a; intro a hA
          refine go1y hA (wanted_yes hA rfl rfl rfl) rfl rfl (r_move (hA.ev rfl)) ?_; clear hA a; intro a hA
          refine goFy hA (wanted_yes hA rfl rfl rfl) rfl T.en18 rfl (IntFirst_calls _ _ _ _ _ _ _ _ _ hS) ?_
          clear hA a; clear hS; rintro e w ⟨rfl, hS⟩
          refine ⟨_, rfl, ?_⟩; intro a hA
          refine go1y hA (wanted_yes hA rfl rfl rfl) rfl rfl (r_sub64 (hA.ev rfl) (hA.ev rfl) (by omega) (by omega)) ?_; clear hA a; intro a hA
          refine go1y hA (wanted_yes hA rfl rfl rfl) rfl rfl (r_move (hA.ev rfl)) ?_; clear hA a; intro a hA
          refine go1y hA (wanted_yes hA rfl rfl rfl) rfl rfl (as_f (r_gtr (hA.ev rfl) (hA.ev rfl)) (by omega)) ?_; clear hA a; intro a hA
          refine go1 hA rfl rfl rfl (r_pick_f (hA.ev rfl) (hA.ev rfl)) ?_; clear hA a; intro a hA
          refine wpList_nil ?_
          refine hk26 _ _ ?_
          clear hk26 k26
          refine wp_cond_false (hA.ev rfl) ?_
          refine wp_skip ?_
          refine hk25 _ _ ?_
          clear hk25 k25
          refine wp_region_lit ?_
          refine go1 hA rfl rfl rfl (r_move (hA.ev rfl)) ?_; clear hA a; intro a hA
          refine goF hA rfl T.en18 rfl (IntFirst_calls _ _ _ _ _ _ _ _ _ hS) ?_
          clear hA a; clear hS; rintro e w ⟨rfl, hS⟩
          refine ⟨_, rfl, ?_⟩; intro a hA
          refine go1 hA rfl rfl rfl (r_assign (hA.ev rfl)) ?_; clear hA a; intro a hA
          refine wpList_nil ?_
          refine block_normal ?_
          refine hk15 _ _ ?_
          clear hk15 k15
          refine wp_region_lit ?_
          refine go1 hA rfl rfl rfl (r_move (hA.ev rfl)) ?_; clear hA a; intro a hA
          refine go1 hA rfl rfl rfl (r_add64 (hA.ev rfl) (hA.ev rfl) (by omega) (by omega)) ?_; clear hA a; intro a hA
          refine go1 hA rfl rfl rfl (r_assign (hA.ev rfl)) ?_; clear hA a; intro a hA
          refine wpList_nil ?_
          replace hA := hA.keep (.cons (i := 1) rfl (.cons (i := 3) rfl (.cons (i := 4) rfl (.cons (i := 5) rfl (.cons (i := 6) rfl (.cons (i := 7) rfl .nil))))))
          exact ⟨(ops.length - (i + 1)).toNat, by omega, _, _, _, _, _, _, _, _, hA, hS.pull2.drop, by omega, by omega, rfl, by omega, by omega, by omega, by omega, by omega, hone⟩
        · clear hA a; intro h87 a hA
          refine go1y hA (wanted_yes hA rfl rfl rfl) rfl rfl (r_move (hA.ev rfl)) ?_; clear hA a; intro a hA
          refine goS hA (wanted_no hA rfl rfl rfl rfl) rfl rfl ?_; clear hA a; intro a hA
          refine goS hA (wanted_no hA rfl rfl rfl rfl) rfl rfl ?_; clear hA a; intro a hA
          refine goS hA (wanted_no hA rfl rfl rfl rfl) rfl rfl ?_; clear hA a; intro a hA
          refine goS hA (wanted_no hA rfl rfl rfl rfl) rfl rfl ?_; clear hA a; intro a hA
          refine goS hA (wanted_no hA rfl rfl rfl rfl) rfl rfl ?_; clear hA a; intro a hA
          refine go1y hA (wanted_yes hA rfl rfl rfl) rfl rfl (r_pick_f (hA.ev rfl) (hA.ev rfl)) ?_; clear hA a; intro a hA
          refine go1 hA rfl rfl rfl (r_pick_f (hA.ev rfl) (hA.ev rfl)) ?_; clear hA a; intro a hA
          refine wpList_nil ?_
          refine hk24 _ _ ?_
          clear hk24 k24
          refine wp_cond_false (hA.ev rfl) ?_
          refine wp_skip ?_
          refine block_normal ?_
          refine hk17 _ _ ?_
          clear hk17 k17
          refine wp_seq_k fun k27 hk27 => ?_
          refine wp_seq_k fun k28 hk28 => ?_
          refine wp_region_lit ?_
          refine go1 hA rfl rfl rfl (r_move (hA.ev rfl)) ?_; clear hA a; intro a hA
          refine goF hA rfl T.en17 rfl (IntNext_calls _ _ _ _ _ _ _ _ _ hS (by omega) (by omega)) ?_
          clear hA a; clear hS; rintro e w ⟨rfl, hS⟩
          refine ⟨_, rfl, ?_⟩; intro a hA
          refine go1 hA rfl rfl rfl (r_move (hA.ev rfl)) ?_; clear hA a; intro a hA
          refine go1 hA rfl rfl rfl (as_f (r_neq (hA.ev rfl) (hA.ev rfl)) (by omega)) ?_; clear hA a; intro a hA
          refine go1 hA rfl rfl rfl (r_move (hA.ev rfl)) ?_; clear hA a; intro a hA
          refine go1y hA (wanted_yes hA rfl rfl rfl) rfl rfl (r_move (hA.ev rfl)) ?_; clear hA a; intro a hA
          refine goFy hA (wanted_yes hA rfl rfl rfl) rfl T.en18 rfl (IntFirst_calls _ _ _ _ _ _ _ _ _ hS) ?_
          clear hA a; clear hS; rintro e w ⟨rfl, hS⟩
          refine ⟨_, rfl, ?_⟩; intro a hA
          refine go1y hA (wanted_yes hA rfl rfl rfl) rfl rfl (r_move (hA.ev rfl)) ?_; clear hA a; intro a hA
          refine go1y hA (wanted_yes hA rfl rfl rfl) rfl rfl (as_f (r_lss (hA.ev rfl) (hA.ev rfl)) (by omega)) ?_; clear hA a; intro a hA
          refine go1 hA rfl rfl rfl (r_pick_f (hA.ev rfl) (hA.ev rfl)) ?_; clear hA a; intro a hA
          refine go1 hA rfl rfl rfl (r_move (hA.ev rfl)) ?_; clear hA a; intro a hA
          refine go1y hA (wanted_yes hA rfl rfl rfl) rfl rfl (r_move (hA.ev rfl)) ?_; clear hA a; intro a hA
          refine goFy hA (wanted_yes hA rfl rfl rfl) rfl T.en18 rfl (IntFirst_calls _ _ _ _ _ _ _ _ _ hS) ?_
          clear hA a; clear hS; rintro e w ⟨rfl, hS⟩
          refine ⟨_, rfl, ?_⟩; intro a hA
          refine go1y hA (wanted_yes hA rfl rfl rfl) rfl rfl (r_move (hA.ev rfl)) ?_; clear hA a; intro a hA
          refine go1y hA (wanted_yes hA rfl rfl rfl) rfl rfl (as_f (r_gtr (hA.ev rfl) (hA.ev rfl)) (by omega)) ?_; clear hA a; intro a hA
          refine go1 hA rfl rfl rfl (r_pick_f (hA.ev rfl) (hA.ev rfl)) ?_; clear hA a; intro a hA
          refine go1 hA rfl rfl rfl (r_move (hA.ev rfl)) ?_; clear hA a; intro a hA
          refine go1y hA (wanted_yes hA rfl rfl rfl) rfl rfl (r_move (hA.ev rfl)) ?_; clear hA a; intro a hA
          refine go1y hA (wanted_yes hA rfl rfl rfl) rfl rfl (r_move (hA.ev rfl)) ?_; clear hA a; intro a hA
          refine goFy hA (wanted_yes hA rfl rfl rfl) rfl T.en18 rfl (IntFirst_calls _ _ _ _ _ _ _ _ _ hS) ?_
          clear hA a; clear hS; rintro e w ⟨rfl, hS⟩
          refine ⟨_, rfl, ?_⟩; intro a hA
          refine go1y hA (wanted_yes hA rfl rfl rfl) rfl rfl (r_sub64 (hA.ev rfl) (hA.ev rfl) (by omega) (by omega)) ?_; clear hA a; intro a hA
          refine go1y hA (wanted_yes hA rfl rfl rfl) rfl rfl (r_move (hA.ev rfl)) ?_; clear hA a; intro a hA
          refine go1y hA (wanted_yes hA rfl rfl rfl) rfl rfl (as_f (r_gtr (hA.ev rfl) (hA.ev rfl)) (by omega)) ?_; clear hA a; intro a hA
          refine go1 hA rfl rfl rfl (r_pick_f (hA.ev rfl) (hA.ev rfl)) ?_; clear hA a; intro a hA
          refine wpList_nil ?_
          refine hk28 _ _ ?_
          clear hk28 k28
          refine wp_cond_false (hA.ev rfl) ?_
          refine wp_skip ?_
          refine hk27 _ _ ?_
          clear hk27 k27
          refine wp_region_lit ?_
          refine go1 hA rfl rfl rfl (r_move (hA.ev rfl)) ?_; clear hA a; intro a hA
          refine goF hA rfl T.en18 rfl (IntFirst_calls _ _ _ _ _ _ _ _ _ hS) ?_
          clear hA a; clear hS; rintro e w ⟨rfl, hS⟩
          refine ⟨_, rfl, ?_⟩; intro a hA
          refine go1 hA rfl rfl rfl (r_assign (hA.ev rfl)) ?_; clear hA a; intro a hA
          refine wpList_nil ?_
          refine block_normal ?_
          refine hk15 _ _ ?_
          clear hk15 k15
          refine wp_region_lit ?_
          refine go1 hA rfl rfl rfl (r_move (hA.ev rfl)) ?_; clear hA a; intro a hA
          refine go1 hA rfl rfl rfl (r_add64 (hA.ev rfl) (hA.ev rfl) (by omega) (by omega)) ?_; clear hA a; intro a hA
          refine go1 hA rfl rfl rfl (r_assign (hA.ev rfl)) ?_; clear hA a; intro a hA
          refine wpList_nil ?_
          replace hA := hA.keep (.cons (i := 1) rfl (.cons (i := 3) rfl (.cons (i := 4) rfl (.cons (i := 5) rfl (.cons (i := 6) rfl (.cons (i := 7) rfl .nil))))))
          exact ⟨(ops.length - (i + 1)).toNat, by omega, _, _, _, _, _, _, _, _, hA, hS.pull2.drop, by omega, by omega, rfl, by omega, by omega, by omega, by omega, by omega, hone⟩
      · clear hA a; intro h77 a hA
        refine go1 hA rfl rfl rfl (r_move (hA.ev rfl)) ?_; clear hA a; intro a hA
        refine goS hA (wanted_no hA rfl rfl rfl rfl) rfl rfl ?_; clear hA a; intro a hA
        refine goS hA (wanted_no hA rfl rfl rfl rfl) rfl rfl ?_; clear hA a; intro a hA
        refine goS hA (wanted_no hA rfl rfl rfl rfl) rfl rfl ?_; clear hA a; intro a hA
        refine goS hA (wanted_no hA rfl rfl rfl rfl) rfl rfl ?_; clear hA a; intro a hA
        refine go1 hA rfl rfl rfl (r_pick_f (hA.ev rfl) (hA.ev rfl)) ?_; clear hA a; intro a hA
        refine go1 hA rfl rfl rfl (r_move (hA.ev rfl)) ?_; clear hA a; intro a hA
        refine go1y hA (wanted_yes hA rfl rfl rfl) rfl rfl (r_move (hA.ev rfl)) ?_; clear hA a; intro a hA
        refine go1y hA (wanted_yes hA rfl rfl rfl) rfl rfl (r_move (hA.ev rfl)) ?_; clear hA a; intro a hA
        refine go1sy hA (wanted_yes hA rfl rfl rfl) rfl rfl (r_eql (hA.ev rfl) (hA.ev rfl)) ?_ ?_
        · clear hA a; intro h87 a hA
          refine go1y hA (wanted_yes hA rfl rfl rfl) rfl rfl (r_move (hA.ev rfl)) ?_; clear hA a; intro a hA
          refine go1y hA (wanted_yes hA rfl rfl rfl) rfl rfl (r_move (hA.ev rfl)) ?_; clear hA a; intro a hA
          refine goFy hA (wanted_yes hA rfl rfl rfl) rfl T.en18 rfl (IntFirst_calls _ _ _ _ _ _ _ _ _ hS) ?_
          clear hA a; clear hS; rintro e w ⟨rfl, hS⟩
          refine ⟨_, rfl, ?_⟩; intro a hA
          refine go1y hA (wanted_yes hA rfl rfl rfl) rfl rfl (r_move (hA.ev rfl)) ?_; clear hA a; intro a hA
          refine go1y hA (wanted_yes hA rfl rfl rfl) rfl rfl (r_add64 (hA.ev rfl) (hA.ev rfl) (by omega) (by omega)) ?_; clear hA a; intro a hA
          refine go1y hA (wanted_yes hA rfl rfl rfl) rfl rfl (as_f (r_neq (hA.ev rfl) (hA.ev rfl)) (by omega)) ?_; clear hA a; intro a hA
          refine go1y hA (wanted_yes hA rfl rfl rfl) rfl rfl (r_pick_t (hA.ev rfl) (hA.ev rfl)) ?_; clear hA a; intro a hA
          refine go1 hA rfl rfl rfl (r_pick_f (hA.ev rfl) (hA.ev rfl)) ?_; clear hA a; intro a hA
          refine wpList_nil ?_
          refine hk24 _ _ ?_
          clear hk24 k24
          refine wp_cond_false (hA.ev rfl) ?_
          refine wp_skip ?_
          refine block_normal ?_
          refine hk17 _ _ ?_
          clear hk17 k17
          refine wp_seq_k fun k29 hk29 => ?_
          refine wp_seq_k fun k30 hk30 => ?_
          refine wp_region_lit ?_
          refine go1 hA rfl rfl rfl (r_move (hA.ev rfl)) ?_; clear hA a; intro a hA
          refine goF hA rfl T.en17 rfl (IntNext_calls _ _ _ _ _ _ _ _ _ hS (by omega) (by omega)) ?_
          clear hA a; clear hS; rintro e w ⟨rfl, hS⟩
          refine ⟨_, rfl, ?_⟩; intro a hA
          refine go1 hA rfl rfl rfl (r_move (hA.ev rfl)) ?_; clear hA a; intro a hA
          refine go1 hA rfl rfl rfl (as_f (r_neq (hA.ev rfl) (hA.ev rfl)) (by omega)) ?_; clear hA a; intro a hA
          refine go1 hA rfl rfl rfl (r_move (hA.ev rfl)) ?_; clear hA a; intro a hA
          refine go1y hA (wanted_yes hA rfl rfl rfl) rfl rfl (r_move (hA.ev rfl)) ?_; clear hA a; intro a hA
          refine goFy hA (wanted_yes hA rfl rfl rfl) rfl T.en18 rfl (IntFirst_calls _ _ _ _ _ _ _ _ _ hS) ?_
          clear hA a; clear hS; rintro e w ⟨rfl, hS⟩
          refine ⟨_, rfl, ?_⟩; intro a hA
          refine go1y hA (wanted_yes hA rfl rfl rfl) rfl rfl (r_move (hA.ev rfl)) ?_; clear hA a; intro a hA
          refine go1y hA (wanted_yes hA rfl rfl rfl) rfl rfl (as_f (r_lss (hA.ev rfl) (hA.ev rfl)) (by omega)) ?_; clear hA a; intro a hA
          refine go1 hA rfl rfl rfl (r_pick_f (hA.ev rfl) (hA.ev rfl)) ?_; clear hA a; intro a hA
          refine go1 hA rfl rfl rfl (r_move (hA.ev rfl)) ?_; clear hA a; intro a hA
          refine go1y hA (wanted_yes hA rfl rfl rfl) rfl rfl (r_move (hA.ev rfl)) ?_; clear hA a; intro a hA
          refine goFy hA (wanted_yes hA rfl rfl rfl) rfl T.en18 rfl (IntFirst_calls _ _ _ _ _ _ _ _ _ hS) ?_
          clear hA a; clear hS; rintro e w ⟨rfl, hS⟩
          refine ⟨_, rfl, ?_⟩; intro a hA
          refine go1y hA (wanted_yes hA rfl rfl rfl) rfl rfl (r_move (hA.ev rfl)) ?_; clear hA a; intro a hA
          refine go1y hA (wanted_yes hA rfl rfl rfl) rfl rfl (as_f (r_gtr (hA.ev rfl) (hA.ev rfl)) (by omega)) ?_; clear hA a; intro a hA
          refine go1 hA rfl rfl rfl (r_pick_f (hA.ev rfl) (hA.ev rfl)) ?_; clear hA a; intro a hA
          refine go1 hA rfl rfl rfl (r_move (hA.ev rfl)) ?_; clear hA a; intro a hA
          refine go1y hA (wanted_yes hA rfl rfl rfl) rfl rfl (r_move (hA.ev rfl)) ?_; clear hA a; intro a hA
          refine go1y hA (wanted_yes hA rfl rfl rfl) rfl rfl (r_move (hA.ev rfl)) ?_; clear hA a; intro a hA
          refine goFy hA (wanted_yes hA rfl rfl rfl) rfl T.en18 rfl (IntFirst_calls _ _ _ _ _ _ _ _ _ hS) ?_
          clear hA a; clear hS; rintro e w ⟨rfl, hS⟩
          refine ⟨_, rfl, ?_⟩; intro a hA
          refine go1y hA (wanted_yes hA rfl rfl rfl) rfl rfl (r_sub64 (hA.ev rfl) (hA.ev rfl) (by omega) (by omega)) ?_; clear hA a; intro a hA
          refine go1y hA (wanted_yes hA rfl rfl rfl) rfl rfl (r_move (hA.ev rfl)) ?_; clear hA a; intro a hA
          refine go1y hA (wanted_yes hA rfl rfl rfl) rfl rfl (as_f (r_gtr (hA.ev rfl) (hA.ev rfl)) (by omega)) ?_; clear hA a; intro a hA
          refine go1 hA rfl rfl rfl (r_pick_f (hA.ev rfl) (hA.ev rfl)) ?_; clear hA a; intro a hA
          refine wpList_nil ?_
          refine hk30 _ _ ?_
          clear hk30 k30
          refine wp_cond_false (hA.ev rfl) ?_
          refine wp_skip ?_
          refine hk29 _ _ ?_
          clear hk29 k29
          refine wp_region_lit ?_
          refine go1 hA rfl rfl rfl (r_move (hA.ev rfl)) ?_; clear hA a; intro a hA
          refine goF hA rfl T.en18 rfl (IntFirst_calls _ _ _ _ _ _ _ _ _ hS) ?_
          clear hA a; clear hS; rintro e w ⟨rfl, hS⟩
          refine ⟨_, rfl, ?_⟩; intro a hA
          refine go1 hA rfl rfl rfl (r_assign (hA.ev rfl)) ?_; clear hA a; intro a hA
          refine wpList_nil ?_
          refine block_normal ?_
          refine hk15 _ _ ?_
          clear hk15 k15
          refine wp_region_lit ?_
          refine go1 hA rfl rfl rfl (r_move (hA.ev rfl)) ?_; clear hA a; intro a hA
          refine go1 hA rfl rfl rfl (r_add64 (hA.ev rfl) (hA.ev rfl) (by omega) (by omega)) ?_; clear hA a; intro a hA
          refine go1 hA rfl rfl rfl (r_assign (hA.ev rfl)) ?_; clear hA a; intro a hA
          refine wpList_nil ?_
          replace hA := hA.keep (.cons (i := 1) rfl (.cons (i := 3) rfl (.cons (i := 4) rfl (.cons (i := 5) rfl (.cons (i := 6) rfl (.cons (i := 7) rfl .nil))))))
          exact ⟨(ops.length - (i + 1)).toNat, by omega, _, _, _, _, _, _, _, _, hA, hS.pull2.drop, by omega, by omega, rfl, by omega, by omega, by omega, by omega, by omega, hone⟩
        · clear hA a; intro h87 a hA
          refine go1y hA (wanted_yes hA rfl rfl rfl) rfl rfl (r_move (hA.ev rfl)) ?_; clear hA a; intro a hA
          refine goS hA (wanted_no hA rfl rfl rfl rfl) rfl rfl ?_; clear hA a; intro a hA
          refine goS hA (wanted_no hA rfl rfl rfl rfl) rfl rfl ?_; clear hA a; intro a hA
          refine goS hA (wanted_no hA rfl rfl rfl rfl) rfl rfl ?_; clear hA a; intro a hA
          refine goS hA (wanted_no hA rfl rfl rfl rfl) rfl rfl ?_; clear hA a; intro a hA
          refine goS hA (wanted_no hA rfl rfl rfl rfl) rfl rfl ?_; clear hA a; intro a hA
          refine go1y hA (wanted_yes hA rfl rfl rfl) rfl rfl (r_pick_f (hA.ev rfl) (hA.ev rfl)) ?_; clear hA a; intro a hA
          refine go1 hA rfl rfl rfl (r_pick_f (hA.ev rfl) (hA.ev rfl)) ?_; clear hA a; intro a hA
          refine wpList_nil ?_
          refine hk24 _ _ ?_
          clear hk24 k24
          refine wp_cond_false (hA.ev rfl) ?_
          refine wp_skip ?_
          refine block_normal ?_
          refine hk17 _ _ ?_
          clear hk17 k17
          refine wp_seq_k fun k31 hk31 => ?_
          refine wp_seq_k fun k32 hk32 => ?_
          refine wp_region_lit ?_
          refine go1 hA rfl rfl rfl (r_move (hA.ev rfl)) ?_; clear hA a; intro a hA
          refine goF hA rfl T.en17 rfl (IntNext_calls _ _ _ _ _ _ _ _ _ hS (by omega) (by omega)) ?_
          clear hA a; clear hS; rintro e w ⟨rfl, hS⟩
          refine ⟨_, rfl, ?_⟩; intro a hA
          refine go1 hA rfl rfl rfl (r_move (hA.ev rfl)) ?_; clear hA a; intro a hA
          refine go1 hA rfl rfl rfl (as_f (r_neq (hA.ev rfl) (hA.ev rfl)) (by omega)) ?_; clear hA a; intro a hA
          refine go1 hA rfl rfl rfl (r_move (hA.ev rfl)) ?_; clear hA a; intro a hA
          refine go1y hA (wanted_yes hA rfl rfl rfl) rfl rfl (r_move (hA.ev rfl)) ?_; clear hA a; intro a hA
          refine goFy hA (wanted_yes hA rfl rfl rfl) rfl T.en18 rfl (IntFirst_calls _ _ _ _ _ _ _ _ _ hS) ?_
          clear hA a; clear hS; rintro e w ⟨rfl, hS⟩
          refine ⟨_, rfl, ?_⟩; intro a hA
          refine go1y hA (wanted_yes hA rfl rfl rfl) rfl rfl (r_move (hA.ev rfl)) ?_; clear hA a; intro a hA
          refine go1y hA (wanted_yes hA rfl rfl rfl) rfl rfl (as_f (r_lss (hA.ev rfl) (hA.ev rfl)) (by omega)) ?_; clear hA a; intro a hA
          refine go1 hA rfl rfl rfl (r_pick_f (hA.ev rfl) (hA.ev rfl)) ?_; clear hA a; intro a hA
          refine go1 hA rfl rfl rfl (r_move (hA.ev rfl)) ?_; clear hA a; intro a hA
          refine go1y hA (wanted_yes hA rfl rfl rfl) rfl rfl (r_move (hA.ev rfl)) ?_; clear hA a; intro a hA
          refine goFy hA (wanted_yes hA rfl rfl rfl) rfl T.en18 rfl (IntFirst_calls _ _ _ _ _ _ _ _ _ hS) ?_
          clear hA a; clear hS; rintro e w ⟨rfl, hS⟩
          refine ⟨_, rfl, ?_⟩; intro a hA
          refine go1y hA (wanted_yes hA rfl rfl rfl) rfl rfl (r_move (hA.ev rfl)) ?_; clear hA a; intro a hA
          refine go1y hA (wanted_yes hA rfl rfl rfl) rfl rfl (as_f (r_gtr (hA.ev rfl) (hA.ev rfl)) (by omega)) ?_; clear hA a; intro a hA
          refine go1 hA rfl rfl rfl (r_pick_f (hA.ev rfl) (hA.ev rfl)) ?_; clear hA a; intro a hA
          refine go1 hA rfl rfl rfl (r_move (hA.ev rfl)) ?_; clear hA a; intro a hA
          refine go1y hA (wanted_yes hA rfl rfl rfl) rfl rfl (r_move (hA.ev rfl)) ?_; clear hA a; intro a hA
          refine go1y hA (wanted_yes hA rfl rfl rfl) rfl rfl (r_move (hA.ev rfl)) ?_; clear hA a; intro a hA
          refine goFy hA (wanted_yes hA rfl rfl rfl) rfl T.en18 rfl (IntFirst_calls _ _ _ _ _ _ _ _ _ hS) ?_
          clear hA a; clear hS; rintro e w ⟨rfl, hS⟩
          refine ⟨_, rfl, ?_⟩; intro a hA
          refine go1y hA (wanted_yes hA rfl rfl rfl) rfl rfl (r_sub64 (hA.ev rfl) (hA.ev rfl) (by omega) (by omega)) ?_; clear hA a; intro a hA
          refine go1y hA (wanted_yes hA rfl rfl rfl) rfl rfl (r_move (hA.ev rfl)) ?_; clear hA a; intro a hA
          refine go1y hA (wanted_yes hA rfl rfl rfl) rfl rfl (as_f (r_gtr (hA.ev rfl) (hA.ev rfl)) (by omega)) ?_; clear hA a; intro a hA
          refine go1 hA rfl rfl rfl (r_pick_f (hA.ev rfl) (hA.ev rfl)) ?_; clear hA a; intro a hA
          refine wpList_nil ?_
          refine hk32 _ _ ?_
          clear hk32 k32
          refine wp_cond_false (hA.ev rfl) ?_
          refine wp_skip ?_
          refine hk31 _ _ ?_
          clear hk31 k31
          refine wp_region_lit ?_
          refine go1 hA rfl rfl rfl (r_move (hA.ev rfl)) ?_; clear hA a; intro a hA
          refine goF hA rfl T.en18 rfl (IntFirst_calls _ _ _ _ _ _ _ _ _ hS) ?_
          clear hA a; clear hS; rintro e w ⟨rfl, hS⟩
          refine ⟨_, rfl, ?_⟩; intro a hA
          refine go1 hA rfl rfl rfl (r_assign (hA.ev rfl)) ?_; clear hA a; intro a hA
          refine wpList_nil ?_
          refine block_normal ?_
          refine hk15 _ _ ?_
          clear hk15 k15
          refine wp_region_lit ?_
          refine go1 hA rfl rfl rfl (r_move (hA.ev rfl)) ?_; clear hA a; intro a hA
          refine go1 hA rfl rfl rfl (r_add64 (hA.ev rfl) (hA.ev rfl) (by omega) (by omega)) ?_; clear hA a; intro a hA
          refine go1 hA rfl rfl rfl (r_assign (hA.ev rfl)) ?_; clear hA a; intro a hA
          refine wpList_nil ?_
          replace hA := hA.keep (.cons (i := 1) rfl (.cons (i := 3) rfl (.cons (i := 4) rfl (.cons (i := 5) rfl (.cons (i := 6) rfl (.cons (i := 7) rfl .nil))))))
          exact ⟨(ops.length - (i + 1)).toNat, by omega, _, _, _, _, _, _, _, _, hA, hS.pull2.drop, by omega, by omega, rfl, by omega, by omega, by omega, by omega, by omega, hone⟩
    · clear hA a; intro h54 a hA
      refine go1 hA rfl rfl rfl (r_assign (hA.ev rfl)) ?_; clear hA a; intro a hA
      refine wpList_nil ?_
      refine hk19 _ _ ?_
      clear hk19 k19
      refine wp_cond_false (hA.ev rfl) ?_
      refine wp_seq_k fun k33 hk33 => ?_
      refine wp_region_lit ?_
      refine go1s hA rfl rfl rfl (r_eql (hA.ev rfl) (hA.ev rfl)) ?_ ?_
      · clear hA a; intro h97 a hA
        refine go1 hA rfl rfl rfl (r_assign (hA.ev rfl)) ?_; clear hA a; intro a hA
        refine wpList_nil ?_
        refine hk33 _ _ ?_
        clear hk33 k33
        refine wp_cond_true (hA.ev rfl) ?_
        refine wp_seq_k fun k34 hk34 => ?_
        refine wp_region_lit ?_
        refine go1 hA rfl rfl rfl (r_move (hA.ev rfl)) ?_; clear hA a; intro a hA
        refine go1 hA rfl rfl rfl (r_field (hA.ev rfl) T.fo34_2) ?_; clear hA a; intro a hA
        refine go1 hA rfl rfl rfl (r_load (hA.ev rfl) T.fl3 (by first | exact hS.cell rfl | exact (hS.p 1).cell rfl | exact (hS.p 2).cell rfl | exact (hS.p 3).cell rfl)) ?_; clear hA a; intro a hA
        refine goF hA rfl T.en20 rfl (IntTrim2 _ _ _ _ _ _ _ _ _ _ _ hS (by omega) (by omega) (by omega) hone (by omega) (by omega)) ?_
        clear hA a; clear hS hone; rintro e w ⟨k2, f2, n2, A2, c2, rfl, hS, hq, hf2, hn2, hone⟩
        refine ⟨_, rfl, ?_⟩; intro a hA
        refine go1 hA rfl rfl rfl (r_assign (hA.ev rfl)) ?_; clear hA a; intro a hA
        refine wpList_nil ?_
        refine hk34 _ _ ?_
        clear hk34 k34
        refine wp_seq_k fun k35 hk35 => ?_
        refine wp_region_lit ?_
        refine go1 hA rfl rfl rfl (r_move (hA.ev rfl)) ?_; clear hA a; intro a hA
        refine go1 hA rfl rfl rfl (r_field (hA.ev rfl) T.fo34_2) ?_; clear hA a; intro a hA
        refine go1 hA rfl rfl rfl (r_load (hA.ev rfl) T.fl3 (by first | exact hS.cell rfl | exact (hS.p 1).cell rfl | exact (hS.p 2).cell rfl | exact (hS.p 3).cell rfl)) ?_; clear hA a; intro a hA
        refine go1 hA rfl rfl rfl (r_move (hA.ev rfl)) ?_; clear hA a; intro a hA
        refine go1 hA rfl rfl rfl (r_max2 (hA.ev rfl) (hA.ev rfl)) ?_; clear hA a; intro a hA
        refine go1 hA rfl rfl rfl (r_move (hA.ev rfl)) ?_; clear hA a; intro a hA
        refine go1 hA rfl rfl rfl (r_min2 (hA.ev rfl) (hA.ev rfl)) ?_; clear hA a; intro a hA
        refine go1 hA rfl rfl rfl (r_move (hA.ev rfl)) ?_; clear hA a; intro a hA
        refine go1 hA rfl rfl rfl (r_sub64 (hA.ev rfl) (hA.ev rfl) (by omega) (by omega)) ?_; clear hA a; intro a hA
        refine go1 hA rfl rfl rfl (as_f (r_neq (hA.ev rfl) (hA.ev rfl)) (by omega)) ?_; clear hA a; intro a hA
        refine go1 hA rfl rfl rfl (r_move (hA.ev rfl)) ?_; clear hA a; intro a hA
        refine go1y hA (wanted_yes hA rfl rfl rfl) rfl rfl (r_move (hA.ev rfl)) ?_; clear hA a; intro a hA
        refine goFy hA (wanted_yes hA rfl rfl rfl) rfl T.en18 rfl (IntFirst_calls _ _ _ _ _ _ _ _ _ hS) ?_
        clear hA a; clear hS; rintro e w ⟨rfl, hS⟩
        refine ⟨_, rfl, ?_⟩; intro a hA
        refine go1y hA (wanted_yes hA rfl rfl rfl) rfl rfl (r_move (hA.ev rfl)) ?_; clear hA a; intro a hA
        refine go1y hA (wanted_yes hA rfl rfl rfl) rfl rfl (r_move (hA.ev rfl)) ?_; clear hA a; intro a hA
        refine go1y hA (wanted_yes hA rfl rfl rfl) rfl rfl (r_add64 (hA.ev rfl) (hA.ev rfl) (by omega) (by omega)) ?_; clear hA a; intro a hA
        refine go1y hA (wanted_yes hA rfl rfl rfl) rfl rfl (as_f (r_neq (hA.ev rfl) (hA.ev rfl)) (by omega)) ?_; clear hA a; intro a hA
        refine go1 hA rfl rfl rfl (r_pick_f (hA.ev rfl) (hA.ev rfl)) ?_; clear hA a; intro a hA
        refine wpList_nil ?_
        refine hk35 _ _ ?_
        clear hk35 k35
        refine wp_cond_false (hA.ev rfl) ?_
        refine wp_skip ?_
        refine block_normal ?_
        refine hk17 _ _ ?_
        clear hk17 k17
        refine wp_seq_k fun k36 hk36 => ?_
        refine wp_seq_k fun k37 hk37 => ?_
        refine wp_region_lit ?_
        refine go1 hA rfl rfl rfl (r_move (hA.ev rfl)) ?_; clear hA a; intro a hA
        refine goF hA rfl T.en17 rfl (IntNext_calls _ _ _ _ _ _ _ _ _ hS (by omega) (by omega)) ?_
        clear hA a; clear hS; rintro e w ⟨rfl, hS⟩
        refine ⟨_, rfl, ?_⟩; intro a hA
        refine go1 hA rfl rfl rfl (r_move (hA.ev rfl)) ?_; clear hA a; intro a hA
        refine go1 hA rfl rfl rfl (as_f (r_neq (hA.ev rfl) (hA.ev rfl)) (by omega)) ?_; clear hA a; intro a hA
        refine go1 hA rfl rfl rfl (r_move (hA.ev rfl)) ?_; clear hA a; intro a hA
        refine go1y hA (wanted_yes hA rfl rfl rfl) rfl rfl (r_move (hA.ev rfl)) ?_; clear hA a; intro a hA
        refine goFy hA (wanted_yes hA rfl rfl rfl) rfl T.en18 rfl (IntFirst_calls _ _ _ _ _ _ _ _ _ hS) ?_
        clear hA a; clear hS; rintro e w ⟨rfl, hS⟩
        refine ⟨_, rfl, ?_⟩; intro a hA
        refine go1y hA (wanted_yes hA rfl rfl rfl) rfl rfl (r_move (hA.ev rfl)) ?_; clear hA a; intro a hA
        refine go1y hA (wanted_yes hA rfl rfl rfl) rfl rfl (as_f (r_lss (hA.ev rfl) (hA.ev rfl)) (by omega)) ?_; clear hA a; intro a hA
        refine go1 hA rfl rfl rfl (r_pick_f (hA.ev rfl) (hA.ev rfl)) ?_; clear hA a; intro a hA
        refine go1 hA rfl rfl rfl (r_move (hA.ev rfl)) ?_; clear hA a; intro a hA
        refine go1y hA (wanted_yes hA rfl rfl rfl) rfl rfl (r_move (hA.ev rfl)) ?_; clear hA a; intro a hA
        refine goFy hA (wanted_yes hA rfl rfl rfl) rfl T.en18 rfl (IntFirst_calls _ _ _ _ _ _ _ _ _ hS) ?_
        clear hA a; clear hS; rintro e w ⟨rfl, hS⟩
        refine ⟨_, rfl, ?_⟩; intro a hA
        refine go1y hA (wanted_yes hA rfl rfl rfl) rfl rfl (r_move (hA.ev rfl)) ?_; clear hA a; intro a hA
        refine go1y hA (wanted_yes hA rfl rfl rfl) rfl rfl (as_f (r_gtr (hA.ev rfl) (hA.ev rfl)) (by omega)) ?_; clear hA a; intro a hA
        refine go1 hA rfl rfl rfl (r_pick_f (hA.ev rfl) (hA.ev rfl)) ?_; clear hA a; intro a hA
        refine go1 hA rfl rfl rfl (r_move (hA.ev rfl)) ?_; clear hA a; intro a hA
        refine go1y hA (wanted_yes hA rfl rfl rfl) rfl rfl (r_move (hA.ev rfl)) ?_; clear hA a; intro a hA
        refine go1y hA (wanted_yes hA rfl rfl rfl) rfl rfl (r_move (hA.ev rfl)) ?_; clear hA a; intro a hA
        refine goFy hA (wanted_yes hA rfl rfl rfl) rfl T.en18 rfl (IntFirst_calls _ _ _ _ _ _ _ _ _ hS) ?_
        clear hA a; clear hS; rintro e w ⟨rfl, hS⟩
        refine ⟨_, rfl, ?_⟩; intro a hA
        refine go1y hA (wanted_yes hA rfl rfl rfl) rfl rfl (r_sub64 (hA.ev rfl) (hA.ev rfl) (by omega) (by omega)) ?_; clear hA a; intro a hA
        refine go1y hA (wanted_yes hA rfl rfl rfl) rfl rfl (r_move (hA.ev rfl)) ?_; clear hA a; intro a hA
        refine go1y hA (wanted_yes hA rfl rfl rfl) rfl rfl (as_f (r_gtr (hA.ev rfl) (hA.ev rfl)) (by omega)) ?_; clear hA a; intro a hA
        refine go1 hA rfl rfl rfl (r_pick_f (hA.ev rfl) (hA.ev rfl)) ?_; clear hA a; intro a hA
        refine wpList_nil ?_
        refine hk37 _ _ ?_
        clear hk37 k37
        refine wp_cond_false (hA.ev rfl) ?_
        refine wp_skip ?_
        refine hk36 _ _ ?_
        clear hk36 k36
        refine wp_region_lit ?_
        refine go1 hA rfl rfl rfl (r_move (hA.ev rfl)) ?_; clear hA a; intro a hA
        refine goF hA rfl T.en18 rfl (IntFirst_calls _ _ _ _ _ _ _ _ _ hS) ?_
        clear hA a; clear hS; rintro e w ⟨rfl, hS⟩
        refine ⟨_, rfl, ?_⟩; intro a hA
        refine go1 hA rfl rfl rfl (r_assign (hA.ev rfl)) ?_; clear hA a; intro a hA
        refine wpList_nil ?_
        refine block_normal ?_
        refine hk15 _ _ ?_
        clear hk15 k15
        refine wp_region_lit ?_
        refine go1 hA rfl rfl rfl (r_move (hA.ev rfl)) ?_; clear hA a; intro a hA
        refine go1 hA rfl rfl rfl (r_add64 (hA.ev rfl) (hA.ev rfl) (by omega) (by omega)) ?_; clear hA a; intro a hA
        refine go1 hA rfl rfl rfl (r_assign (hA.ev rfl)) ?_; clear hA a; intro a hA
        refine wpList_nil ?_
        replace hA := hA.keep (.cons (i := 1) rfl (.cons (i := 3) rfl (.cons (i := 4) rfl (.cons (i := 5) rfl (.cons (i := 6) rfl (.cons (i := 7) rfl .nil))))))
        exact ⟨(ops.length - (i + 1)).toNat, by omega, _, _, _, _, _, _, _, _, hA, hS.pull2.drop, by omega, by omega, rfl, by omega, by omega, by omega, by omega, by omega, hone⟩
      · clear hA a; intro h97 a hA
        refine go1 hA rfl rfl rfl (r_assign (hA.ev rfl)) ?_; clear hA a; intro a hA
        refine wpList_nil ?_
        refine hk33 _ _ ?_
        clear hk33 k33
        refine wp_cond_false (hA.ev rfl) ?_
        refine wp_skip ?_
        refine block_normal ?_
        refine hk17 _ _ ?_
        clear hk17 k17
        refine wp_seq_k fun k38 hk38 => ?_
        refine wp_seq_k fun k39 hk39 => ?_
        refine wp_region_lit ?_
        refine go1 hA rfl rfl rfl (r_move (hA.ev rfl)) ?_; clear hA a; intro a hA
        refine goF hA rfl T.en17 rfl (IntNext_calls _ _ _ _ _ _ _ _ _ hS (by omega) (by omega)) ?_
        clear hA a; clear hS; rintro e w ⟨rfl, hS⟩
        refine ⟨_, rfl, ?_⟩; intro a hA
        refine go1 hA rfl rfl rfl (r_move (hA.ev rfl)) ?_; clear hA a; intro a hA
        refine go1 hA rfl rfl rfl (as_f (r_neq (hA.ev rfl) (hA.ev rfl)) (by omega)) ?_; clear hA a; intro a hA
        refine go1 hA rfl rfl rfl (r_move (hA.ev rfl)) ?_; clear hA a; intro a hA
        refine go1y hA (wanted_yes hA rfl rfl rfl) rfl rfl (r_move (hA.ev rfl)) ?_; clear hA a; intro a hA
        refine goFy hA (wanted_yes hA rfl rfl rfl) rfl T.en18 rfl (IntFirst_calls _ _ _ _ _ _ _ _ _ hS) ?_
        clear hA a; clear hS; rintro e w ⟨rfl, hS⟩
        refine ⟨_, rfl, ?_⟩; intro a hA
        refine go1y hA (wanted_yes hA rfl rfl rfl) rfl rfl (r_move (hA.ev rfl)) ?_; clear hA a; intro a hA
        refine go1y hA (wanted_yes hA rfl rfl rfl) rfl rfl (as_f (r_lss (hA.ev rfl) (hA.ev rfl)) (by omega)) ?_; clear hA a; intro a hA
        refine go1 hA rfl rfl rfl (r_pick_f (hA.ev rfl) (hA.ev rfl)) ?_; clear hA a; intro a hA
        refine go1 hA rfl rfl rfl (r_move (hA.ev rfl)) ?_; clear hA a; intro a hA
        refine go1y hA (wanted_yes hA rfl rfl rfl) rfl rfl (r_move (hA.ev rfl)) ?_; clear hA a; intro a hA
        refine goFy hA (wanted_yes hA rfl rfl rfl) rfl T.en18 rfl (IntFirst_calls _ _ _ _ _ _ _ _ _ hS) ?_
        clear hA a; clear hS; rintro e w ⟨rfl, hS⟩
        refine ⟨_, rfl, ?_⟩; intro a hA
        refine go1y hA (wanted_yes hA rfl rfl rfl) rfl rfl (r_move (hA.ev rfl)) ?_; clear hA a; intro a hA
        refine go1y hA (wanted_yes hA rfl rfl rfl) rfl rfl (as_f (r_gtr (hA.ev rfl) (hA.ev rfl)) (by omega)) ?_; clear hA a; intro a hA
        refine go1 hA rfl rfl rfl (r_pick_f (hA.ev rfl) (hA.ev rfl)) ?_; clear hA a; intro a hA
        refine go1 hA rfl rfl rfl (r_move (hA.ev rfl)) ?_; clear hA a; intro a hA
        refine go1y hA (wanted_yes hA rfl rfl rfl) rfl rfl (r_move (hA.ev rfl)) ?_; clear hA a; intro a hA
        refine go1y hA (wanted_yes hA rfl rfl rfl) rfl rfl (r_move (hA.ev rfl)) ?_; clear hA a; intro a hA
        refine goFy hA (wanted_yes hA rfl rfl rfl) rfl T.en18 rfl (IntFirst_calls _ _ _ _ _ _ _ _ _ hS) ?_
        clear hA a; clear hS; rintro e w ⟨rfl, hS⟩
        refine ⟨_, rfl, ?_⟩; intro a hA
        refine go1y hA (wanted_yes hA rfl rfl rfl) rfl rfl (r_sub64 (hA.ev rfl) (hA.ev rfl) (by omega) (by omega)) ?_; clear hA a; intro a hA
        refine go1y hA (wanted_yes hA rfl rfl rfl) rfl rfl (r_move (hA.ev rfl)) ?_; clear hA a; intro a hA
        refine go1y hA (wanted_yes hA rfl rfl rfl) rfl rfl (as_f (r_gtr (hA.ev rfl) (hA.ev rfl)) (by omega)) ?_; clear hA a; intro a hA
        refine go1 hA rfl rfl rfl (r_pick_f (hA.ev rfl) (hA.ev rfl)) ?_; clear hA a; intro a hA
        refine wpList_nil ?_
        refine hk39 _ _ ?_
        clear hk39 k39
        refine wp_cond_false (hA.ev rfl) ?_
        refine wp_skip ?_
        refine hk38 _ _ ?_
        clear hk38 k38
        refine wp_region_lit ?_
        refine go1 hA rfl rfl rfl (r_move (hA.ev rfl)) ?_; clear hA a; intro a hA
        refine goF hA rfl T.en18 rfl (IntFirst_calls _ _ _ _ _ _ _ _ _ hS) ?_
        clear hA a; clear hS; rintro e w ⟨rfl, hS⟩
        refine ⟨_, rfl, ?_⟩; intro a hA
        refine go1 hA rfl rfl rfl (r_assign (hA.ev rfl)) ?_; clear hA a; intro a hA
        refine wpList_nil ?_
        refine block_normal ?_
        refine hk15 _ _ ?_
        clear hk15 k15
        refine wp_region_lit ?_
        refine go1 hA rfl rfl rfl (r_move (hA.ev rfl)) ?_; clear hA a; intro a hA
        refine go1 hA rfl rfl rfl (r_add64 (hA.ev rfl) (hA.ev rfl) (by omega) (by omega)) ?_; clear hA a; intro a hA
        refine go1 hA rfl rfl rfl (r_assign (hA.ev rfl)) ?_; clear hA a; intro a hA
        refine wpList_nil ?_
        replace hA := hA.keep (.cons (i := 1) rfl (.cons (i := 3) rfl (.cons (i := 4) rfl (.cons (i := 5) rfl (.cons (i := 6) rfl (.cons (i := 7) rfl .nil))))))
        exact ⟨(ops.length - (i + 1)).toNat, by omega, _, _, _, _, _, _, _, _, hA, hS.pull2.drop, by omega, by omega, rfl, by omega, by omega, by omega, by omega, by omega, hone⟩
  · clear hA a; intro h43 a hA
    refine wpList_nil ?_
    refine hk14 _ _ ?_
    clear hk14 k14
    refine wp_cond_false (hA.ev rfl) ?_
    refine wp_exit ?_
    refine then_exit ?_; clear hk13 k13
    refine then_exit ?_
    refine block_hit ?_
    refine hk11 _ _ ?_
    clear hk11 k11
    replace hA := hA.keep .nil
    refine wp_seq_k fun k40 hk40 => ?_
    refine wp_region_lit ?_
    refine go1 hA rfl rfl rfl (r_assign (hA.ev rfl)) ?_; clear hA a; intro a hA
    refine wpList_nil ?_
    refine hk40 _ _ ?_
    clear hk40 k40
    refine wp_ret ?_
    refine end1 hA rfl rfl ?_
    exact ⟨rfl, hS.nil⟩
end Go.Proofs.Ytmooogahfkgljaa.Wk
