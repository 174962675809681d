/- The walk of barrowlaw16.name: a text of eight bytes. No condition. -/
import Derived.Test.YtmooogahfkgljaaT
set_option linter.unusedVariables false
set_option linter.unusedSimpArgs false
namespace Go.Proofs.Ytmooogahfkgljaa.Wk
open Go Go.RowKit Go.Proofs.Ytmooogahfkgljaa Go.Proofs.Ytmooogahfkgljaa.K
def nmB (x : Int) (k : Nat) : UInt8 := b8 (IntKind.u8.wrap (Int.fdiv (IntKind.u64.wrap x) (2 ^ (min (8 * (k : Int)).toNat 64))))
def nmL (x i : Int) : List UInt8 := (List.range i.toNat).map (nmB x)
def nm (x : Int) : ByteArray := ⟨(nmL x 8).toArray⟩
theorem wrap8_in (a : Int) : 0 ≤ IntKind.u8.wrap a ∧ IntKind.u8.wrap a ≤ 255 := by
  simp only [IntKind.wrap, IntKind.signed, IntKind.bits]
  first | omega | (constructor <;> (split <;> omega)) | (simp; omega)
theorem nmL_step (x i : Int) (hi : 0 ≤ i) : (nmL x i).map bcell ++ [Value.int .u8 (IntKind.u8.wrap (Int.fdiv (IntKind.u64.wrap x) (2 ^ (min (8 * i).toNat 64))))] = (nmL x (i + 1)).map bcell := by
  have h : Value.int .u8 (IntKind.u8.wrap (Int.fdiv (IntKind.u64.wrap x) (2 ^ (min (8 * i).toNat 64)))) = bcell (nmB x i.toNat) := by
    rw [bcell_b8 (wrap8_in _).1 (wrap8_in _).2]; unfold nmB; rw [Int.toNat_of_nonneg hi]
  unfold nmL
  rw [show (i + 1).toNat = i.toNat + 1 from by omega, List.range_succ, List.map_append, List.map_append, h]; rfl
theorem nmL_len (x i : Int) : (nmL x i).length = i.toNat := by simp [nmL]
set_option maxRecDepth 100000 in
set_option maxHeartbeats 1000000 in
theorem name_calls (W : World) (x : Int)  : Calls Try.prog 26 #[.int .i64 x] W fun e w' => e = .returned (.string (nm x)) ∧ Sat W w' [] := by
  refine enter Try.func26 rfl rfl rfl (.cons (i := 0) rfl .nil) ?_
  intro a hA
  have hS := Sat.start W
  refine wp_seq_k fun k1 hk1 => ?_
  refine wp_region_lit ?_
  refine go1 hA rfl rfl rfl (r_assign (hA.ev rfl)) ?_; clear hA a; intro a hA
  refine wpList_nil ?_
  refine hk1 _ _ ?_
  clear hk1 k1
  refine wp_seq_k fun k2 hk2 => ?_
  refine wp_region_lit ?_
  refine goL0 hA rfl T.un22 T.el5 hS ?_
  clear hA a hS; intro A5 w hS a hA
  refine go1 hA rfl rfl rfl (r_assign (hA.ev rfl)) ?_; clear hA a; intro a hA
  refine wpList_nil ?_
  refine hk2 _ _ ?_
  clear hk2 k2
  replace hA := hA.keep (.cons (i := 0) rfl (.cons (i := 2) rfl (.cons (i := 3) rfl .nil)))
  refine wp_seq_k fun k3 hk3 => ?_
  refine wp_seq_k fun k4 hk4 => ?_
  refine wp_region_lit ?_
  refine go1 hA rfl rfl rfl (r_assign (hA.ev rfl)) ?_; clear hA a; intro a hA
  refine wpList_nil ?_
  refine hk4 _ _ ?_
  clear hk4 k4
  refine wp_block ?_
  refine wp_loop_ghost (fun (mm : Nat) a w => ∃ (i : Int) (A : Option Addr) (n c : Nat), Ag a Try.f26.ntmps [(0, .int .i64 x), (3, .slice A n c), (4, .int .i64 i)] ∧ Sat W w [row 5 1 (.slice A n c) n ((nmL x i).map bcell)] ∧ 0 ≤ i ∧ i ≤ 8 ∧ n = i.toNat ∧ mm = (8 - i).toNat) 8 ?_ ?_
  · replace hA := hA.keep (.cons (i := 0) rfl (.cons (i := 3) rfl (.cons (i := 4) rfl .nil)))
    exact ⟨0, _, _, _, hA, hS, by omega, by omega, rfl, by omega⟩
  intro m a w hI
  clear hS; obtain ⟨i, A, n, c, hA, hS, hi0, hi8, hn, rfl⟩ := hI
  refine wp_seq_k fun k5 hk5 => ?_
  refine wp_seq_k fun k6 hk6 => ?_
  refine wp_region_lit ?_
  refine go1 hA rfl rfl rfl (r_move (hA.ev rfl)) ?_; clear hA a; intro a hA
  refine go1s hA rfl rfl rfl (r_lss (hA.ev rfl) (hA.ev rfl)) ?_ ?_
  · clear hA a; intro h7 a hA
    try (first | contradiction | (exfalso; omega) | (exfalso; simp at h7; done))
    all_goals
     skip
     refine wpList_nil ?_
     refine hk6 _ _ ?_
     clear hk6 k6
     refine wp_cond_true (hA.ev rfl) ?_
     refine wp_skip ?_
     refine hk5 _ _ ?_
     clear hk5 k5
     refine wp_seq_k fun k7 hk7 => ?_
     refine wp_block ?_
     refine wp_region_lit ?_
     refine go1 hA rfl rfl rfl (r_move (hA.ev rfl)) ?_; clear hA a; intro a hA
     refine go1 hA rfl rfl rfl (r_move (hA.ev rfl)) ?_; clear hA a; intro a hA
     refine go1 hA rfl rfl rfl (r_convw (hA.ev rfl) T.un3 T.un111) ?_; clear hA a; intro a hA
     refine go1 hA rfl rfl rfl (r_move (hA.ev rfl)) ?_; clear hA a; intro a hA
     refine go1 hA rfl rfl rfl (r_mul64 (hA.ev rfl) (hA.ev rfl) (by omega) (by omega)) ?_; clear hA a; intro a hA
     refine go1 hA rfl rfl rfl (r_shrw (hA.ev rfl) (hA.ev rfl) (by omega)) ?_; clear hA a; intro a hA
     refine go1 hA rfl rfl rfl (r_convw (hA.ev rfl) T.un111 T.un5) ?_; clear hA a; intro a hA
     refine goL hA rfl rfl T.un22 T.el5 rfl rfl rfl (by simp [Value.oneCell']) hS ?_
     clear hA a hS; intro A17 w hS a hA
     refine goA' hA rfl rfl rfl T.un22 T.el5 rfl (hS.p 1) (hS.rd.src T.un22 (by simp [Value.oneCell'])) (by omega) (by omega) ?_
     clear hA a hS; intro A18 c18 w hc18 hS a hA
     refine go1 hA rfl rfl rfl (r_assign (hA.ev rfl)) ?_; clear hA a; intro a hA
     refine wpList_nil ?_
     refine block_normal ?_
     refine hk7 _ _ ?_
     clear hk7 k7
     refine wp_region_lit ?_
     refine go1 hA rfl rfl rfl (r_move (hA.ev rfl)) ?_; clear hA a; intro a hA
     refine go1 hA rfl rfl rfl (r_add64 (hA.ev rfl) (hA.ev rfl) (by omega) (by omega)) ?_; clear hA a; intro a hA
     refine go1 hA rfl rfl rfl (r_assign (hA.ev rfl)) ?_; clear hA a; intro a hA
     refine wpList_nil ?_
     replace hA := hA.keep (.cons (i := 0) rfl (.cons (i := 3) rfl (.cons (i := 4) rfl .nil)))
     rw [show IntKind.u64.bits = 64 from rfl, nmL_step x i hi0] at hS
     exact ⟨(8 - (i + 1)).toNat, by omega, _, _, _, _, hA, hS.pull1.drop, by omega, by omega, by omega, rfl⟩
  · clear hA a; intro h7 a hA
    try (first | contradiction | (exfalso; omega) | (exfalso; simp at h7; done))
    all_goals
     skip
     refine wpList_nil ?_
     refine hk6 _ _ ?_
     clear hk6 k6
     refine wp_cond_false (hA.ev rfl) ?_
     refine wp_exit ?_
     refine then_exit ?_; clear hk5 k5
     refine then_exit ?_
     refine block_hit ?_
     refine hk3 _ _ ?_
     clear hk3 k3
     replace hA := hA.keep (.cons (i := 3) rfl .nil)
     refine wp_seq_k fun k8 hk8 => ?_
     refine wp_region_lit ?_
     refine go1 hA rfl rfl rfl (r_move (hA.ev rfl)) ?_; clear hA a; intro a hA
     refine go1 hA rfl rfl rfl (r_b2s (hA.ev rfl) T.un22 T.un5 T.un9 hS.rd) ?_; clear hA a; intro a hA
     refine go1 hA rfl rfl rfl (r_assign (hA.ev rfl)) ?_; clear hA a; intro a hA
     refine wpList_nil ?_
     refine hk8 _ _ ?_
     clear hk8 k8
     replace hA := hA.keep (.cons (i := 2) rfl .nil)
     refine wp_ret ?_
     refine end1 hA rfl rfl ?_
     obtain rfl : i = 8 := by omega
     exact ⟨rfl, hS.drop⟩
end Go.Proofs.Ytmooogahfkgljaa.Wk
