/- The walk of barrowlaw17.AcksPlays: it returns true. Conditions: the script is read as data. -/
import Derived.Test.YtmooogahfkgljaaT
import Derived.Test.YtmooogahfkgljaaWkPlay
set_option linter.unusedVariables false
set_option linter.unusedSimpArgs false
namespace Go.Proofs.Ytmooogahfkgljaa.Wk
open Go Go.RowKit Go.Proofs.Ytmooogahfkgljaa Go.Proofs.Ytmooogahfkgljaa.K
structure TD where
  t : Nat
  s : Nat
  p : Addr
  c : Nat
  n : Nat
  BA : Option Addr
  bc : Nat
  bk : List (Int × Int)
def TD.ok (d : TD) (m : Nat) : Prop := 1 ≤ d.n ∧ d.n ≤ 16 ∧ d.s < d.n ∧ d.bk.length ≤ m
def TD.cells (d : TD) : List Value := ([.pointer (some ⟨d.t, 0, none⟩), .int .i64 (d.n : Nat), .int .i64 (d.s : Nat), .slice d.BA d.bk.length d.bc] : List Value)
def TD.tab (d : TD) : As := pto d.t (.cells #[.int .i64 (d.s : Nat), .slice (some d.p) d.n d.c] 119)
def TD.told (d : TD) : As := row 3 1 (.slice (some d.p) d.n d.c) d.n ((allF d.n d.s d.bk).map (Value.int .i64))
def TD.book (d : TD) : As := row 91 2 (.slice d.BA d.bk.length d.bc) d.bk.length (d.bk.flatMap encT)
def CHS (d0 d1 d2 d3 : TD) : List As := [d0.tab, d0.told, d0.book, d1.tab, d1.told, d1.book, d2.tab, d2.told, d2.book, d3.tab, d3.told, d3.book]
def ST (b : Nat) (d0 d1 d2 d3 : TD) : List As := pto b (.cells (d0.cells ++ d1.cells ++ d2.cells ++ d3.cells).toArray 73) :: CHS d0 d1 d2 d3
theorem TD.ok.up {d : TD} {m : Nat} (h : d.ok m) : d.ok (m + 1) := ⟨h.1, h.2.1, h.2.2.1, Nat.le_succ_of_le h.2.2.2⟩
theorem playD (W w : World) (L : List As) (b : Nat) (pre post : List Value) (d : TD) (m : Nat) (hd : d.ok m) (hm : m ≤ 4398046511104) (sk sT sA sB sC : Int) (hS : Sat W w (pto b (.cells (pre ++ d.cells ++ post).toArray 73) :: d.tab :: d.told :: d.book :: L)) :
    Calls Try.prog 58 #[.pointer (some ⟨b, pre.length, none⟩), .agg #[.int .i64 sk, .int .i64 sT, .int .i64 sA, .int .i64 sB, .int .i64 sC]] w fun e w' => e = .returned (.bool true) ∧ ∃ d' : TD, d'.ok (m + 1) ∧ Sat W w' (pto b (.cells (pre ++ d'.cells ++ post).toArray 73) :: d'.tab :: d'.told :: d'.book :: L) :=
  (play_calls W w L b pre post d.t d.s d.p d.c d.n d.BA d.bc d.bk sk sT sA sB sC hS hd.1 hd.2.1 hd.2.2.1 (Nat.le_trans hd.2.2.2 hm)).mono fun e w' ⟨he, t', s', p', c', n', BA', bc', bk', h1, h2, h3, h4, hS⟩ =>
    ⟨he, ⟨t', s', p', c', n', BA', bc', bk'⟩, ⟨h1, h2, h3, Nat.le_trans h4 (Nat.succ_le_succ hd.2.2.2)⟩, hS⟩
theorem play4 (W w : World) (b : Nat) (d0 d1 d2 d3 : TD) (m : Nat) (hm : m ≤ 4398046511104) (h0 : d0.ok m) (h1 : d1.ok m) (h2 : d2.ok m) (h3 : d3.ok m) (k : Nat) (hk : k < 4) (sk sT sA sB sC : Int) (hS : Sat W w (ST b d0 d1 d2 d3)) :
    Calls Try.prog 58 #[.pointer (some ⟨b, k * 4, none⟩), .agg #[.int .i64 sk, .int .i64 sT, .int .i64 sA, .int .i64 sB, .int .i64 sC]] w fun e w' => e = .returned (.bool true) ∧ ∃ d0' d1' d2' d3' : TD, (d0'.ok (m + 1) ∧ d1'.ok (m + 1) ∧ d2'.ok (m + 1) ∧ d3'.ok (m + 1)) ∧ Sat W w' (ST b d0' d1' d2' d3') := by
  match k, hk with
  | 0, _ =>
    exact (playD W w _ b [] (d1.cells ++ d2.cells ++ d3.cells) d0 m h0 hm sk sT sA sB sC hS).mono fun e w' ⟨he, d, hd, hS⟩ => ⟨he, d, d1, d2, d3, ⟨hd, h1.up, h2.up, h3.up⟩, hS⟩
  | 1, _ =>
    have hS' : Sat W w (pto b (.cells (d0.cells ++ d1.cells ++ (d2.cells ++ d3.cells)).toArray 73) :: d1.tab :: d1.told :: d1.book :: _) := ((((hS.p 6).p 6).p 6).p 3)
    exact (playD W w _ b d0.cells (d2.cells ++ d3.cells) d1 m h1 hm sk sT sA sB sC hS').mono fun e w' ⟨he, d, hd, hS⟩ => ⟨he, d0, d, d2, d3, ⟨h0.up, hd, h2.up, h3.up⟩, (((((((hS.p 3).p 3).p 3).p 6).p 6).p 6).p 6)⟩
  | 2, _ =>
    have hS' : Sat W w (pto b (.cells ((d0.cells ++ d1.cells) ++ d2.cells ++ d3.cells).toArray 73) :: d2.tab :: d2.told :: d2.book :: _) := ((((hS.p 9).p 9).p 9).p 3)
    exact (playD W w _ b (d0.cells ++ d1.cells) d3.cells d2 m h2 hm sk sT sA sB sC hS').mono fun e w' ⟨he, d, hd, hS⟩ => ⟨he, d0, d1, d, d3, ⟨h0.up, h1.up, hd, h3.up⟩, ((((((((((hS.p 3).p 3).p 3).p 9).p 9).p 9).p 9).p 9).p 9).p 9)⟩
  | 3, _ =>
    have hS' : Sat W w (pto b (.cells ((d0.cells ++ d1.cells ++ d2.cells) ++ d3.cells ++ []).toArray 73) :: d3.tab :: d3.told :: d3.book :: _) := ((((hS.p 12).p 12).p 12).p 3)
    exact (playD W w _ b (d0.cells ++ d1.cells ++ d2.cells) [] d3 m h3 hm sk sT sA sB sC hS').mono fun e w' ⟨he, d, hd, hS⟩ => ⟨he, d0, d1, d2, d, ⟨h0.up, h1.up, h2.up, hd⟩, (((((((((((((hS.p 3).p 3).p 3).p 12).p 12).p 12).p 12).p 12).p 12).p 12).p 12).p 12).p 12)⟩
theorem all4 : allF 3 (1 : Nat) [(0, 4)] = [4, 0, 0] := by decide
theorem all0 : allF 3 (1 : Nat) [] = [0, 0, 0] := by decide
theorem start2_calls (W : World) : Calls Try.prog 47 #[] W fun e w' => ∃ d0 d1 d2 d3 : TD, (d0.ok 1 ∧ d1.ok 1 ∧ d2.ok 1 ∧ d3.ok 1) ∧ e = .returned (.tuple #[.agg (d0.cells ++ d1.cells ++ d2.cells ++ d3.cells).toArray, .bool true]) ∧ Sat W w' (CHS d0 d1 d2 d3) :=
  (start_calls W).mono fun e w' ⟨t0, p0, t1, p1, t2, p2, t3, p3, A4, c4, he, hS⟩ => by
    refine ⟨⟨t0, 1, p0, 3, 3, A4, c4, [(0, 4)]⟩, ⟨t1, 1, p1, 3, 3, none, 0, []⟩, ⟨t2, 1, p2, 3, 3, none, 0, []⟩, ⟨t3, 1, p3, 3, 3, none, 0, []⟩, ⟨⟨by simp, by simp, by simp, by simp⟩, ⟨by simp, by simp, by simp, by simp⟩, ⟨by simp, by simp, by simp, by simp⟩, ⟨by simp, by simp, by simp, by simp⟩⟩, he, ?_⟩
    have hS := ((hS.row_nil 91 2).row_nil 91 2).row_nil 91 2
    have hS := ((((((((((((hS.p 2).p 11).p 11).p 4).p 11).p 11).p 6).p 11).p 11).p 11).p 11).p 11)
    simp only [CHS, TD.tab, TD.told, TD.book, all4, all0]
    exact hS
structure StepD where
  k : Int
  T : Int
  a : Int
  b : Int
  c : Int
def encS (s : StepD) : List Value := [.int .i64 s.k, .int .i64 s.T, .int .i64 s.a, .int .i64 s.b, .int .i64 s.c]
theorem step_at {sc : List StepD} {i : Nat} {s : StepD} (h : sc[i]? = some s) : ∀ j u, (encS s)[j]? = some u → (sc.flatMap encS)[i * 5 + j]? = some u :=
  flat_at encS 5 (fun _ => rfl) sc _ s h
theorem and3 (x : Int) : ∃ k : Nat, k < 4 ∧ Value.int .i64 (IntKind.i64.wrap (BitVec.ofInt IntKind.i64.bits x &&& BitVec.ofInt IntKind.i64.bits 3).toNat) = .int .i64 (k : Int) := by
  have h : (BitVec.ofInt IntKind.i64.bits x &&& BitVec.ofInt IntKind.i64.bits 3).toNat < 4 := by
    rw [BitVec.toNat_and]
    refine Nat.lt_of_le_of_lt Nat.and_le_right ?_
    decide
  refine ⟨_, h, ?_⟩
  rw [wrap_in (by simp [IntKind.min, IntKind.signed, IntKind.bits] <;> omega) (by simp [IntKind.max, IntKind.signed, IntKind.bits] at h ⊢ <;> omega)]
set_option maxRecDepth 100000 in
set_option maxHeartbeats 1000000 in
theorem AcksPlays_calls (W : World) (A : Option Addr) (c : Nat) (sc : List StepD) (hR : Rd W 5 (.slice A sc.length c) sc.length (sc.flatMap encS)) (hlen : sc.length ≤ 3518437208883) : Calls Try.prog 11 #[.slice A sc.length c] W fun e w' => e = .returned (.bool true) ∧ Sat W w' [] := by
  refine enter Try.func11 rfl rfl rfl (.cons (i := 0) rfl .nil) ?_
  intro a hA
  have hS := Sat.start W
  refine wp_seq_k fun k1 hk1 => ?_
  refine wp_region_lit ?_
  refine go1 hA rfl rfl rfl (r_assign (hA.ev rfl)) ?_; clear hA a; intro a hA
  refine wpList_nil ?_
  refine hk1 _ _ ?_
  clear hk1 k1
  refine wp_seq_k fun k2 hk2 => ?_
  refine wp_region_lit ?_
  refine goF hA rfl T.en47 rfl (start2_calls _) ?_
  clear hA a; rintro e w ⟨d0, d1, d2, d3, ⟨ho0, ho1, ho2, ho3⟩, rfl, hT⟩; replace hS : Sat _ _ _ := hS.rebase hT; clear hT
  refine ⟨_, rfl, ?_⟩; intro a hA
  refine go1 hA rfl rfl rfl (r_move (hA.ev rfl)) ?_; clear hA a; intro a hA
  refine go1 hA rfl rfl rfl (r_ext (hA.ev rfl) rfl) ?_; clear hA a; intro a hA
  refine go1b hA rfl rfl rfl (r_ext (hA.ev rfl) rfl) ?_ ?_
  · clear hA a; intro h10 a hA
    try simp only [decide_eq_decide, decide_eq_true_eq, decide_eq_false_iff_not, Bool.not_eq_true', Bool.not_eq_false', bne_iff_ne, ne_eq, beq_iff_eq, Bool.not_eq_true, Bool.not_eq_false] at h10
    try (first | contradiction | (exfalso; omega) | (exfalso; simp at h10; done))
    all_goals
     skip
     refine goN hA rfl T.zv73 hS ?_
     clear hA a hS; intro b3 w hS a hA
     first | refine goWS2 (vs := [_, _, _, _, _, _, _, _, _, _, _, _, _, _, _, _]) (cs' := [_, _, _, _, _, _, _, _, _, _, _, _, _, _, _, _]) hA rfl rfl T.sz73 (by simp [Value.oneCell']) hS rfl rfl ?_ | refine goWS2 (vs := [_, _, _, _, _, _, _, _, _, _, _, _, _, _, _, _]) (cs' := [_, _, _, _, _, _, _, _, _, _, _, _, _, _, _, _]) hA rfl rfl T.sz73 (by simp [Value.oneCell']) (hS.p 1) rfl rfl ?_
     clear hS; intro w hS
     refine go1 hA rfl rfl rfl (r_assign (hA.ev rfl)) ?_; clear hA a; intro a hA
     refine wpList_nil ?_
     refine hk2 _ _ ?_
     clear hk2 k2
     replace hA := hA.keep (.cons (i := 0) rfl (.cons (i := 2) rfl (.cons (i := 3) rfl (.cons (i := 4) rfl .nil))))
     refine wp_seq_k fun k3 hk3 => ?_
     refine wp_seq_k fun k4 hk4 => ?_
     refine wp_region_lit ?_
     refine go1 hA rfl rfl rfl (r_move (hA.ev rfl)) ?_; clear hA a; intro a hA
     refine go1 hA rfl rfl rfl (r_not (hA.ev rfl)) ?_; clear hA a; intro a hA
     refine wpList_nil ?_
     refine hk4 _ _ ?_
     clear hk4 k4
     replace hA := hA.keep (.cons (i := 0) rfl (.cons (i := 2) rfl (.cons (i := 3) rfl (.cons (i := 12) rfl .nil))))
     refine wp_cond_false (hA.ev rfl) ?_
     refine wp_skip ?_
     refine hk3 _ _ ?_
     clear hk3 k3
     replace hA := hA.keep (.cons (i := 0) rfl (.cons (i := 2) rfl (.cons (i := 3) rfl .nil)))
     refine wp_seq_k fun k5 hk5 => ?_
     refine wp_seq_k fun k6 hk6 => ?_
     refine wp_region_lit ?_
     refine go1 hA rfl rfl rfl (r_assign (hA.ev rfl)) ?_; clear hA a; intro a hA
     refine wpList_nil ?_
     refine hk6 _ _ ?_
     clear hk6 k6
     refine wp_block ?_
     refine wp_loop_ghost (fun (mm : Nat) a w => ∃ (d0 d1 d2 d3 : TD) (i : Int), Ag a 33 [(0, .slice A sc.length c), (3, .pointer (some ⟨b3, 0, none⟩)), (5, .int .i64 i)] ∧ Sat W w (ST b3 d0 d1 d2 d3) ∧ (0 ≤ i) ∧ (i ≤ sc.length) ∧ (d0.ok (i.toNat + 1)) ∧ (d1.ok (i.toNat + 1)) ∧ (d2.ok (i.toNat + 1)) ∧ (d3.ok (i.toNat + 1)) ∧ mm = (sc.length - i).toNat) sc.length ?_ ?_
     · replace hA := hA.keep (.cons (i := 0) rfl (.cons (i := 3) rfl (.cons (i := 5) rfl .nil)))
       exact ⟨d0, d1, d2, d3, _, hA, hS, (by omega), (by omega), (by exact ho0), (by exact ho1), (by exact ho2), (by exact ho3), by omega⟩
     intro m a w hI
     clear hS hA; obtain ⟨d0, d1, d2, d3, i, hA, hS, hi0, hi1, ho0, ho1, ho2, ho3, rfl⟩ := hI
     refine wp_seq_k fun k7 hk7 => ?_
     refine wp_seq_k fun k8 hk8 => ?_
     refine wp_region_lit ?_
     refine go1 hA rfl rfl rfl (r_move (hA.ev rfl)) ?_; clear hA a; intro a hA
     refine go1 hA rfl rfl rfl (r_move (hA.ev rfl)) ?_; clear hA a; intro a hA
     refine go1 hA rfl rfl rfl (r_lens (hA.ev rfl) T.un95) ?_; clear hA a; intro a hA
     refine go1s hA rfl rfl rfl (r_lss (hA.ev rfl) (hA.ev rfl)) ?_ ?_
     · clear hA a; intro h16 a hA
       try (first | contradiction | (exfalso; omega) | (exfalso; simp at h16; done))
       all_goals
        skip
        refine wpList_nil ?_
        refine hk8 _ _ ?_
        clear hk8 k8
        refine wp_cond_true (hA.ev rfl) ?_
        refine wp_skip ?_
        refine hk7 _ _ ?_
        clear hk7 k7
        refine wp_seq_k fun k9 hk9 => ?_
        refine wp_block ?_
        refine wp_seq_k fun k10 hk10 => ?_
        refine wp_region_lit ?_
        refine go1 hA rfl rfl rfl (r_move (hA.ev rfl)) ?_; clear hA a; intro a hA
        refine go1 hA rfl rfl rfl (r_move (hA.ev rfl)) ?_; clear hA a; intro a hA
        obtain ⟨A_p, rfl⟩ : ∃ q, A = some q := (hR.sat hS).hasAddr (by omega)
        obtain ⟨x, hx⟩ : ∃ x, sc[i.toNat]? = some x := ⟨_, List.getElem?_eq_getElem (by omega)⟩
        refine go1 hA rfl rfl rfl (r_index (hA.ev rfl) (hA.ev rfl) T.un95 T.sz98 (by omega) (by omega)) ?_; clear hA a; intro a hA
        refine go1 hA rfl rfl rfl (r_fieldP (hA.ev rfl) T.fo98_1) ?_; clear hA a; intro a hA
        refine go1 hA rfl rfl rfl (r_load (hA.ev rfl) T.fl3 (rdl2 (hR.sat hS) (step_at hx 1 _ rfl))) ?_; clear hA a; intro a hA
        obtain ⟨k, hk, he⟩ := and3 x.T
        refine go1 hA rfl rfl rfl (as_val (r_and (hA.ev rfl) (hA.ev rfl)) he) ?_; clear hA a; intro a hA
        refine go1 hA rfl rfl rfl (r_indexA (hA.ev rfl) (hA.ev rfl) T.un73 T.sz72 (by omega) (by omega)) ?_; clear hA a; intro a hA
        rw [show 0 + ((k : Nat) : Int).toNat * 4 = k * 4 from by simp] at hA
        refine go1 hA rfl rfl rfl (r_assign (hA.ev rfl)) ?_; clear hA a; intro a hA
        refine wpList_nil ?_
        refine hk10 _ _ ?_
        clear hk10 k10
        refine wp_seq_k fun k11 hk11 => ?_
        refine wp_region_lit ?_
        refine go1 hA rfl rfl rfl (r_move (hA.ev rfl)) ?_; clear hA a; intro a hA
        refine go1 hA rfl rfl rfl (r_move (hA.ev rfl)) ?_; clear hA a; intro a hA
        refine go1 hA rfl rfl rfl (r_move (hA.ev rfl)) ?_; clear hA a; intro a hA
        refine go1 hA rfl rfl rfl (r_index (hA.ev rfl) (hA.ev rfl) T.un95 T.sz98 (by omega) (by omega)) ?_; clear hA a; intro a hA
        refine go1 hA rfl rfl rfl (r_loadS (cs := encS x) (hA.ev rfl) T.ag98 T.sz98 (fun j u e => rdl2 (hR.sat hS) (step_at hx j u e))) ?_; clear hA a; intro a hA
        refine goF hA rfl T.en58 rfl (play4 _ _ b3 d0 d1 d2 d3 (i.toNat + 1) (by omega) ho0 ho1 ho2 ho3 k hk _ _ _ _ _ hS) ?_
        clear hA a; clear hS; rintro e w ⟨rfl, d0', d1', d2', d3', ⟨hp0, hp1, hp2, hp3⟩, hS⟩
        refine ⟨_, rfl, ?_⟩; intro a hA
        refine go1b hA rfl rfl rfl (r_not (hA.ev rfl)) ?_ ?_
        · clear hA a; intro h32 a hA
          try simp only [decide_eq_decide, decide_eq_true_eq, decide_eq_false_iff_not, Bool.not_eq_true', Bool.not_eq_false', bne_iff_ne, ne_eq, beq_iff_eq, Bool.not_eq_true, Bool.not_eq_false] at h32
          try (first | contradiction | (exfalso; omega) | (exfalso; simp at h32; done))
          all_goals
           skip
           refine wpList_nil ?_
           refine hk11 _ _ ?_
           clear hk11 k11
           refine wp_cond_true (hA.ev rfl) ?_
           refine wp_seq_k fun k12 hk12 => ?_
           refine wp_region_lit ?_
           refine go1 hA rfl rfl rfl (r_assign (hA.ev rfl)) ?_; clear hA a; intro a hA
           refine wpList_nil ?_
           refine hk12 _ _ ?_
           clear hk12 k12
           refine wp_ret ?_
           refine block_ret ?_
           refine then_ret ?_; clear hk9 k9
           refine then_ret ?_
           refine block_ret ?_
           refine then_ret ?_; clear hk5 k5
           refine end1 hA rfl rfl ?_
           exact ⟨rfl, hS.nil⟩
        · clear hA a; intro h32 a hA
          try simp only [decide_eq_decide, decide_eq_true_eq, decide_eq_false_iff_not, Bool.not_eq_true', Bool.not_eq_false', bne_iff_ne, ne_eq, beq_iff_eq, Bool.not_eq_true, Bool.not_eq_false] at h32
          try (first | contradiction | (exfalso; omega) | (exfalso; simp at h32; done))
          all_goals
           skip
           refine wpList_nil ?_
           refine hk11 _ _ ?_
           clear hk11 k11
           refine wp_cond_false (hA.ev rfl) ?_
           refine wp_skip ?_
           refine block_normal ?_
           refine hk9 _ _ ?_
           clear hk9 k9
           refine wp_region_lit ?_
           refine go1 hA rfl rfl rfl (r_move (hA.ev rfl)) ?_; clear hA a; intro a hA
           refine go1 hA rfl rfl rfl (r_add64 (hA.ev rfl) (hA.ev rfl) (by omega) (by omega)) ?_; clear hA a; intro a hA
           refine go1 hA rfl rfl rfl (r_assign (hA.ev rfl)) ?_; clear hA a; intro a hA
           refine wpList_nil ?_
           replace hA := hA.keep (.cons (i := 0) rfl (.cons (i := 3) rfl (.cons (i := 5) rfl .nil)))
           refine ⟨_, ?_, d0', d1', d2', d3', _, hA, hS, (by omega), (by omega), (by rw [show (i + 1).toNat + 1 = i.toNat + 1 + 1 from by omega]; exact hp0), (by rw [show (i + 1).toNat + 1 = i.toNat + 1 + 1 from by omega]; exact hp1), (by rw [show (i + 1).toNat + 1 = i.toNat + 1 + 1 from by omega]; exact hp2), (by rw [show (i + 1).toNat + 1 = i.toNat + 1 + 1 from by omega]; exact hp3), rfl⟩
           omega
     · clear hA a; intro h16 a hA
       try (first | contradiction | (exfalso; omega) | (exfalso; simp at h16; done))
       all_goals
        skip
        refine wpList_nil ?_
        refine hk8 _ _ ?_
        clear hk8 k8
        refine wp_cond_false (hA.ev rfl) ?_
        refine wp_exit ?_
        refine then_exit ?_; clear hk7 k7
        refine then_exit ?_
        refine block_hit ?_
        refine hk5 _ _ ?_
        clear hk5 k5
        replace hA := hA.keep .nil
        refine wp_seq_k fun k13 hk13 => ?_
        refine wp_region_lit ?_
        refine go1 hA rfl rfl rfl (r_assign (hA.ev rfl)) ?_; clear hA a; intro a hA
        refine wpList_nil ?_
        refine hk13 _ _ ?_
        clear hk13 k13
        refine wp_ret ?_
        refine end1 hA rfl rfl ?_
        exact ⟨rfl, hS.nil⟩
  · clear hA a; intro h10 a hA
    try simp only [decide_eq_decide, decide_eq_true_eq, decide_eq_false_iff_not, Bool.not_eq_true', Bool.not_eq_false', bne_iff_ne, ne_eq, beq_iff_eq, Bool.not_eq_true, Bool.not_eq_false] at h10
    try (first | contradiction | (exfalso; omega) | (exfalso; simp at h10; done))
    all_goals
     skip
     refine goN hA rfl T.zv73 hS ?_
     clear hA a hS; intro b3 w hS a hA
     first | refine goWS2 (vs := [_, _, _, _, _, _, _, _, _, _, _, _, _, _, _, _]) (cs' := [_, _, _, _, _, _, _, _, _, _, _, _, _, _, _, _]) hA rfl rfl T.sz73 (by simp [Value.oneCell']) hS rfl rfl ?_ | refine goWS2 (vs := [_, _, _, _, _, _, _, _, _, _, _, _, _, _, _, _]) (cs' := [_, _, _, _, _, _, _, _, _, _, _, _, _, _, _, _]) hA rfl rfl T.sz73 (by simp [Value.oneCell']) (hS.p 1) rfl rfl ?_
     clear hS; intro w hS
     refine go1 hA rfl rfl rfl (r_assign (hA.ev rfl)) ?_; clear hA a; intro a hA
     refine wpList_nil ?_
     refine hk2 _ _ ?_
     clear hk2 k2
     replace hA := hA.keep (.cons (i := 0) rfl (.cons (i := 2) rfl (.cons (i := 3) rfl (.cons (i := 4) rfl .nil))))
     refine wp_seq_k fun k14 hk14 => ?_
     refine wp_seq_k fun k15 hk15 => ?_
     refine wp_region_lit ?_
     refine go1 hA rfl rfl rfl (r_move (hA.ev rfl)) ?_; clear hA a; intro a hA
     refine go1 hA rfl rfl rfl (r_not (hA.ev rfl)) ?_; clear hA a; intro a hA
     refine wpList_nil ?_
     refine hk15 _ _ ?_
     clear hk15 k15
     replace hA := hA.keep (.cons (i := 0) rfl (.cons (i := 2) rfl (.cons (i := 3) rfl (.cons (i := 12) rfl .nil))))
     refine wp_cond_true (hA.ev rfl) ?_
     refine wp_seq_k fun k16 hk16 => ?_
     refine wp_region_lit ?_
     refine go1 hA rfl rfl rfl (r_assign (hA.ev rfl)) ?_; clear hA a; intro a hA
     refine wpList_nil ?_
     refine hk16 _ _ ?_
     clear hk16 k16
     replace hA := hA.keep (.cons (i := 0) rfl (.cons (i := 2) rfl (.cons (i := 3) rfl .nil)))
     refine wp_ret ?_
     refine then_ret ?_; clear hk14 k14
     refine end1 hA rfl rfl ?_
     exact ⟨rfl, hS.nil⟩
end Go.Proofs.Ytmooogahfkgljaa.Wk
