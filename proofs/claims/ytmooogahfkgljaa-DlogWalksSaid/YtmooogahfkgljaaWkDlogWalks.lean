/- The walk of barrowlaw16.DlogWalks: it returns true. Conditions: the script is read as data. -/
import Derived.Test.YtmooogahfkgljaaWkPlays16
import Derived.Test.YtmooogahfkgljaaK34
set_option linter.unusedVariables false
set_option linter.unusedSimpArgs false
namespace Go.Proofs.Ytmooogahfkgljaa.Wk
open Go Go.RowKit Go.Proofs.Ytmooogahfkgljaa Go.Proofs.Ytmooogahfkgljaa.K
theorem T.zv87 : (Try.prog.info? 87).bind (·.zero) = some .nilFunc := by kernel_rfl
theorem wat_first {s : Int} {g : Nat} {xs : List Int} (hg : g ≤ xs.length) : wat s (s + g) g xs = s + g := by unfold wat; omega
theorem her_first {s : Int} {g : Nat} {xs : List Int} (hg : g ≤ xs.length) : frm s (s + g) g xs = xs.drop g := by
  unfold frm; rw [if_pos (by omega), show (s + (g : Int) - s).toNat = g from by omega]
theorem drop_at {s : Int} {g k : Nat} {xs : List Int} (h : g + k < xs.length) : atv s (s + g + k) g xs = (xs.drop g).getD k 0 ∧ atb s (s + g + k) g xs = true := by
  refine ⟨?_, decide_eq_true (by omega)⟩
  unfold atv
  rw [if_pos (by omega), show (s + (g : Int) + k - s).toNat = g + k from by omega, List.getD_eq_getElem?_getD, List.getD_eq_getElem?_getD, List.getElem?_drop]
def wlX (Bs As b9 b11 b15 b18 : Nat) (a0 : Int) (ps ph : Option Addr) (cs ch : Nat) (ys : List Int) (k : Nat) : K.As := stars [pto Bs (.cells #[.slice ps ys.length cs] 54), row 3 1 (.slice ps ys.length cs) ys.length (ys.map (Value.int .i64)), pto As (.cells #[.int .i64 a0] 3), pto b9 (.cells #[.int .i64 a0] 3), pto b11 (.cells #[.slice ph ys.length ch] 54), row 3 1 (.slice ph ys.length ch) ys.length (ys.map (Value.int .i64)), pto b15 (.cells #[.func (.func 71) #[] #[.pointer (some ⟨Bs, 0, none⟩), .pointer (some ⟨As, 0, none⟩)]] 87), pto b18 (.cells #[.int .i64 (k : Nat)] 3)]
theorem wlX_cap {W w : World} {M : List K.As} {Bs As b9 b11 b15 b18 : Nat} {a0 : Int} {ps ph : Option Addr} {cs ch : Nat} {ys : List Int} {k : Nat} (h : Sat W w (wlX Bs As b9 b11 b15 b18 a0 ps ph cs ch ys k :: M)) : WCap Bs As a0 ps cs ys w := by
  have s := unstars h
  exact ⟨s.cell rfl, (s.p 2).cell rfl, (s.p 1).rd⟩
def wlY (Bs As b9 b11 b15 b18 b21 : Nat) (a0 : Int) (ps ph : Option Addr) (cs ch : Nat) (ys : List Int) (k j : Nat) : K.As := stars [pto Bs (.cells #[.slice ps ys.length cs] 54), row 3 1 (.slice ps ys.length cs) ys.length (ys.map (Value.int .i64)), pto As (.cells #[.int .i64 a0] 3), pto b9 (.cells #[.int .i64 a0] 3), pto b11 (.cells #[.slice ph ys.length ch] 54), row 3 1 (.slice ph ys.length ch) ys.length (ys.map (Value.int .i64)), pto b15 (.cells #[.func (.func 71) #[] #[.pointer (some ⟨Bs, 0, none⟩), .pointer (some ⟨As, 0, none⟩)]] 87), pto b18 (.cells #[.int .i64 (k : Nat)] 3), pto b21 (.cells #[.int .i64 (j : Nat)] 3)]
theorem wlY_cap {W w : World} {M : List K.As} {Bs As b9 b11 b15 b18 b21 : Nat} {a0 : Int} {ps ph : Option Addr} {cs ch : Nat} {ys : List Int} {k j : Nat} (h : Sat W w (wlY Bs As b9 b11 b15 b18 b21 a0 ps ph cs ch ys k j :: M)) : WCap Bs As a0 ps cs ys w := by
  have s := unstars h
  exact ⟨s.cell rfl, (s.p 2).cell rfl, (s.p 1).rd⟩
def wzX (B A b26 b27 b18 : Nat) (a0 : Int) (p q : Option Addr) (c d : Nat) (zs : List Int) (k : Nat) : K.As := stars [pto B (.cells #[.slice p zs.length c] 54), row 3 1 (.slice p zs.length c) zs.length (zs.map (Value.int .i64)), pto A (.cells #[.int .i64 a0] 3), pto b26 (.cells #[.int .i64 a0] 3), pto b27 (.cells #[.slice q zs.length d] 54), row 3 1 (.slice q zs.length d) zs.length (zs.map (Value.int .i64)), pto b18 (.cells #[.int .i64 (k : Nat)] 3)]
theorem wzX_cap {W w : World} {M : List K.As} {B A b26 b27 b18 : Nat} {a0 : Int} {p q : Option Addr} {c d : Nat} {zs : List Int} {k : Nat} (h : Sat W w (wzX B A b26 b27 b18 a0 p q c d zs k :: M)) : WCap B A a0 p c zs w := by
  have s := unstars h
  exact ⟨s.cell rfl, (s.p 2).cell rfl, (s.p 1).rd⟩
theorem Sat.no {W w : World} {L : List K.As} (s : Sat W w ((fun _ => False) :: L)) : False := by
  obtain ⟨_, _, ⟨_, _, _, _, _, h, _⟩, _⟩ := s
  exact h
set_option maxRecDepth 100000 in
set_option maxHeartbeats 1000000 in
theorem DlogWalks_calls (W : World) (m1 s1 m2 s2 : Int) (A : Option Addr) (c : Nat) (ops : List OpD) (hR : Rd W 4 (.slice A ops.length c) ops.length (ops.flatMap encO)) (hlen : ops.length ≤ 4398046511000) (hw : ∀ o ∈ ops, -9223372036854775808 ≤ o.n ∧ o.n ≤ 9223372036854775807) : Calls Try.prog 9 #[.agg #[.int .i64 m1, .int .i64 s1, .int .i64 m2, .int .i64 s2, .slice A ops.length c]] W fun e w' => e = .returned (.bool true) ∧ Sat W w' [] := by
  refine enterM Try.func9 rfl rfl rfl (.cons (i := 0) rfl .nil) ?_
  intro a hA
  have hS := Sat.start W
  refine wp_seq_k fun k1 hk1 => ?_
  refine wp_region_lit ?_
  refine goB hA rfl rfl hS ?_
  clear hA a hS; intro b1 w hS a hA
  refine goN hA rfl T.zv4 hS ?_
  clear hA a hS; intro b2 w hS a hA
  refine wpList_nil ?_
  refine hk1 _ _ ?_
  clear hk1 k1
  replace hA := hA.keep (.cons (i := 1) rfl (.cons (i := 2) rfl .nil))
  refine wp_seq_k fun k2 hk2 => ?_
  refine wp_seq_k fun k3 hk3 => ?_
  refine wp_region_lit ?_
  refine goF hA rfl T.en15 rfl (fixed_calls _) ?_
  clear hA a; rintro e w ⟨rfl, hT⟩; replace hS : Sat _ _ _ := hS.rebase hT; clear hT
  refine ⟨_, rfl, ?_⟩; intro a hA
  refine go1b hA rfl rfl rfl (r_not (hA.ev rfl)) ?_ ?_
  · clear hA a; intro h31 a hA
    try simp only [decide_eq_decide, decide_eq_true_eq, decide_eq_false_iff_not, Bool.not_eq_true', Bool.not_eq_false', bne_iff_ne, ne_eq, beq_iff_eq, Bool.not_eq_true, Bool.not_eq_false] at h31
    try (first | contradiction | (exfalso; omega) | (exfalso; simp at h31; done))
    all_goals
     skip
     refine wpList_nil ?_
     refine hk3 _ _ ?_
     clear hk3 k3
     replace hA := hA.keep (.cons (i := 1) rfl (.cons (i := 2) rfl (.cons (i := 31) rfl .nil)))
     refine wp_cond_true (hA.ev rfl) ?_
     refine wp_seq_k fun k4 hk4 => ?_
     refine wp_region_lit ?_
     first | refine goW2 (cs' := [_]) hA rfl rfl T.fl4 T.sz4 rfl hS rfl rfl ?_ | refine goW2 (cs' := [_]) hA rfl rfl T.fl4 T.sz4 rfl (hS.p 1) rfl rfl ?_ | refine goW2 (cs' := [_]) hA rfl rfl T.fl4 T.sz4 rfl (hS.p 2) rfl rfl ?_ | refine goW2 (cs' := [_]) hA rfl rfl T.fl4 T.sz4 rfl (hS.p 3) rfl rfl ?_ | refine goW2 (cs' := [_]) hA rfl rfl T.fl4 T.sz4 rfl (hS.p 4) rfl rfl ?_ | refine goW2 (cs' := [_]) hA rfl rfl T.fl4 T.sz4 rfl (hS.p 5) rfl rfl ?_ | refine goW2 (cs' := [_]) hA rfl rfl T.fl4 T.sz4 rfl (hS.p 6) rfl rfl ?_ | refine goW2 (cs' := [_]) hA rfl rfl T.fl4 T.sz4 rfl (hS.p 7) rfl rfl ?_ | refine goW2 (cs' := [_]) hA rfl rfl T.fl4 T.sz4 rfl (hS.p 8) rfl rfl ?_ | refine goW2 (cs' := [_]) hA rfl rfl T.fl4 T.sz4 rfl (hS.p 9) rfl rfl ?_ | refine goW2 (cs' := [_]) hA rfl rfl T.fl4 T.sz4 rfl (hS.p 10) rfl rfl ?_ | refine goW2 (cs' := [_]) hA rfl rfl T.fl4 T.sz4 rfl (hS.p 11) rfl rfl ?_ | refine goW2 (cs' := [_]) hA rfl rfl T.fl4 T.sz4 rfl (hS.p 12) rfl rfl ?_ | refine goW2 (cs' := [_]) hA rfl rfl T.fl4 T.sz4 rfl (hS.p 13) rfl rfl ?_ | refine goW2 (cs' := [_]) hA rfl rfl T.fl4 T.sz4 rfl (hS.p 14) rfl rfl ?_ | refine goW2 (cs' := [_]) hA rfl rfl T.fl4 T.sz4 rfl (hS.p 15) rfl rfl ?_ | refine goW2 (cs' := [_]) hA rfl rfl T.fl4 T.sz4 rfl (hS.p 16) rfl rfl ?_ | refine goW2 (cs' := [_]) hA rfl rfl T.fl4 T.sz4 rfl (hS.p 17) rfl rfl ?_ | refine goW2 (cs' := [_]) hA rfl rfl T.fl4 T.sz4 rfl (hS.p 18) rfl rfl ?_ | refine goW2 (cs' := [_]) hA rfl rfl T.fl4 T.sz4 rfl (hS.p 19) rfl rfl ?_
     clear hS; intro w hS
     refine wpList_nil ?_
     refine hk4 _ _ ?_
     clear hk4 k4
     replace hA := hA.keep (.cons (i := 1) rfl (.cons (i := 2) rfl .nil))
     refine wp_ret ?_
     refine then_ret ?_; clear hk2 k2
     exact endMC (Ds := Ds) hA rfl rfl T.fl4 (hS.p 1) (fun w' hS => hS.cell rfl) (fun w' hS => ⟨rfl, hS.nil⟩)
  · clear hA a; intro h31 a hA
    try simp only [decide_eq_decide, decide_eq_true_eq, decide_eq_false_iff_not, Bool.not_eq_true', Bool.not_eq_false', bne_iff_ne, ne_eq, beq_iff_eq, Bool.not_eq_true, Bool.not_eq_false] at h31
    try (first | contradiction | (exfalso; omega) | (exfalso; simp at h31; done))
    all_goals
     skip
     refine wpList_nil ?_
     refine hk3 _ _ ?_
     clear hk3 k3
     replace hA := hA.keep (.cons (i := 1) rfl (.cons (i := 2) rfl (.cons (i := 31) rfl .nil)))
     refine wp_cond_false (hA.ev rfl) ?_
     refine wp_skip ?_
     refine hk2 _ _ ?_
     clear hk2 k2
     replace hA := hA.keep (.cons (i := 1) rfl (.cons (i := 2) rfl .nil))
     refine wp_seq_k fun k5 hk5 => ?_
     refine wp_region_lit ?_
     refine go1 hA rfl rfl rfl (r_field (hA.ev rfl) T.fo28_0) ?_; clear hA a; intro a hA
     refine go1 hA rfl rfl rfl (r_load (hA.ev rfl) T.fl3 (by first | exact hS.cell rfl | exact (hS.p 1).cell rfl | exact (hS.p 2).cell rfl | exact (hS.p 3).cell rfl | exact (hS.p 4).cell rfl | exact (hS.p 5).cell rfl | exact (hS.p 6).cell rfl | exact (hS.p 7).cell rfl | exact (hS.p 8).cell rfl | exact (hS.p 9).cell rfl | exact (hS.p 10).cell rfl | exact (hS.p 11).cell rfl | exact (hS.p 12).cell rfl | exact (hS.p 13).cell rfl | exact (hS.p 14).cell rfl | exact (hS.p 15).cell rfl | exact (hS.p 16).cell rfl | exact (hS.p 17).cell rfl | exact (hS.p 18).cell rfl | exact (hS.p 19).cell rfl)) ?_; clear hA a; intro a hA
     refine go1 hA rfl rfl rfl (r_field (hA.ev rfl) T.fo28_1) ?_; clear hA a; intro a hA
     refine go1 hA rfl rfl rfl (r_load (hA.ev rfl) T.fl3 (by first | exact hS.cell rfl | exact (hS.p 1).cell rfl | exact (hS.p 2).cell rfl | exact (hS.p 3).cell rfl | exact (hS.p 4).cell rfl | exact (hS.p 5).cell rfl | exact (hS.p 6).cell rfl | exact (hS.p 7).cell rfl | exact (hS.p 8).cell rfl | exact (hS.p 9).cell rfl | exact (hS.p 10).cell rfl | exact (hS.p 11).cell rfl | exact (hS.p 12).cell rfl | exact (hS.p 13).cell rfl | exact (hS.p 14).cell rfl | exact (hS.p 15).cell rfl | exact (hS.p 16).cell rfl | exact (hS.p 17).cell rfl | exact (hS.p 18).cell rfl | exact (hS.p 19).cell rfl)) ?_; clear hA a; intro a hA
     refine goF hA rfl T.en16 rfl (IntNew_calls _ _ _ _ _ hS) ?_
     clear hA a; clear hS; rintro e w ⟨l, rfl, hS⟩; obtain ⟨M, hMd⟩ : ∃ M, M = min (max m1 0) 64 := ⟨_, rfl⟩; obtain ⟨s, hsd⟩ : ∃ s, s = min (max s1 0) 4611686018427387904 := ⟨_, rfl⟩; rw [← hMd, ← hsd] at hS; have hM : 0 ≤ M := by omega
     have hM2 : M ≤ 64 := by omega
     have hs : 0 ≤ s := by omega
     have hs2 : s ≤ 4611686018427387904 := by omega
     clear hMd hsd
     replace hS : Sat W w (pto l (.cells #[.int .i64 M, .int .i64 (s + ((0 : Nat) : Int)), .slice none ((([] : List Int)).length - 0) 0] 103) :: row 3 1 (.slice none ((([] : List Int)).length - 0) 0) ((([] : List Int)).length - 0) (((([] : List Int)).drop 0).map (Value.int .i64)) :: pto b2 (.cells #[.bool false] 4) :: [pto b1 (.cells #[.int .i64 m1, .int .i64 s1, .int .i64 m2, .int .i64 s2, .slice A ops.length c] 28)]) := by simpa [Value.cells] using hS
     refine ⟨_, rfl, ?_⟩; intro a hA
     refine go1 hA rfl rfl rfl (r_assign (hA.ev rfl)) ?_; clear hA a; intro a hA
     refine wpList_nil ?_
     refine hk5 _ _ ?_
     clear hk5 k5
     replace hA := hA.keep (.cons (i := 1) rfl (.cons (i := 2) rfl (.cons (i := 3) rfl .nil)))
     refine wp_seq_k fun k6 hk6 => ?_
     refine wp_seq_k fun k7 hk7 => ?_
     refine wp_region_lit ?_
     refine go1 hA rfl rfl rfl (r_move (hA.ev rfl)) ?_; clear hA a; intro a hA
     refine go1 hA rfl rfl rfl (r_eqpn (hA.ev rfl) (hA.ev rfl) T.un30) ?_; clear hA a; intro a hA
     refine wpList_nil ?_
     refine hk7 _ _ ?_
     clear hk7 k7
     replace hA := hA.keep (.cons (i := 1) rfl (.cons (i := 2) rfl (.cons (i := 3) rfl (.cons (i := 38) rfl .nil))))
     refine wp_cond_false (hA.ev rfl) ?_
     refine wp_skip ?_
     refine hk6 _ _ ?_
     clear hk6 k6
     replace hA := hA.keep (.cons (i := 1) rfl (.cons (i := 2) rfl (.cons (i := 3) rfl .nil)))
     refine wp_seq_k fun k8 hk8 => ?_
     refine wp_region_lit ?_
     refine go1 hA rfl rfl rfl (r_move (hA.ev rfl)) ?_; clear hA a; intro a hA
     refine goF hA rfl T.en52 rfl (Walk_calls _ _ _ l M s 0 none 0 ([] : List Int) 0 hS hM hM2 hs hs2 (by simp) (by simpa using hM) (by simp) (by omega) (by omega)) ?_
     clear hA a; clear hS; rintro e w ⟨Bo, Ao, po, co, rfl, hS⟩
     refine ⟨_, rfl, ?_⟩; intro a hA
     refine go1 hA rfl rfl rfl (r_assign (hA.ev rfl)) ?_; clear hA a; intro a hA
     refine wpList_nil ?_
     refine hk8 _ _ ?_
     clear hk8 k8
     replace hA := hA.keep (.cons (i := 1) rfl (.cons (i := 2) rfl (.cons (i := 3) rfl (.cons (i := 4) rfl .nil))))
     refine wp_seq_k fun k9 hk9 => ?_
     refine wp_region_lit ?_
     refine go1 hA rfl rfl rfl (r_move (hA.ev rfl)) ?_; clear hA a; intro a hA
     refine goF hA rfl T.en18 rfl (IntFirst_calls _ _ _ _ _ _ _ _ _ (hS.p 3)) ?_
     clear hA a; clear hS; rintro e w ⟨rfl, hS⟩
     refine ⟨_, rfl, ?_⟩; intro a hA
     refine go1 hA rfl rfl rfl (r_assign (hA.ev rfl)) ?_; clear hA a; intro a hA
     refine wpList_nil ?_
     refine hk9 _ _ ?_
     clear hk9 k9
     replace hA := hA.keep (.cons (i := 1) rfl (.cons (i := 2) rfl (.cons (i := 3) rfl (.cons (i := 4) rfl (.cons (i := 5) rfl .nil)))))
     refine wp_seq_k fun k10 hk10 => ?_
     refine wp_region_lit ?_
     refine go1 hA rfl rfl rfl (r_assign (hA.ev rfl)) ?_; clear hA a; intro a hA
     refine wpList_nil ?_
     refine hk10 _ _ ?_
     clear hk10 k10
     refine wp_seq_k fun k11 hk11 => ?_
     refine wp_seq_k fun k12 hk12 => ?_
     refine wp_region_lit ?_
     refine go1 hA rfl rfl rfl (r_move (hA.ev rfl)) ?_; clear hA a; intro a hA
     refine go1 hA rfl rfl rfl (r_eqF (hA.ev rfl) (hA.ev rfl) (isFunc_get T.uf87).choose_spec.choose_spec.choose_spec) ?_; clear hA a; intro a hA
     refine wpList_nil ?_
     refine hk12 _ _ ?_
     clear hk12 k12
     replace hA := hA.keep (.cons (i := 1) rfl (.cons (i := 2) rfl (.cons (i := 3) rfl (.cons (i := 4) rfl (.cons (i := 5) rfl (.cons (i := 6) rfl (.cons (i := 44) rfl .nil)))))))
     refine wp_cond_false (hA.ev rfl) ?_
     refine wp_skip ?_
     refine hk11 _ _ ?_
     clear hk11 k11
     replace hA := hA.keep (.cons (i := 1) rfl (.cons (i := 2) rfl (.cons (i := 3) rfl (.cons (i := 4) rfl (.cons (i := 5) rfl (.cons (i := 6) rfl .nil))))))
     refine wp_seq_k fun k13 hk13 => ?_
     refine wp_seq_k fun k14 hk14 => ?_
     refine wp_region_lit ?_
     refine go1 hA rfl rfl rfl (r_assign (hA.ev rfl)) ?_; clear hA a; intro a hA
     refine wpList_nil ?_
     refine hk14 _ _ ?_
     clear hk14 k14
     refine wp_block ?_
     refine wp_loop_ghost (fun (mm : Nat) a w => ∃ (i : Int) (g : Nat) (xs : List Int) (Al : Option Addr) (cl : Nat) (Ds : List Nat) (Bo Ao : Nat) (po pw : Option Addr) (co cw : Nat) (ws : List Int) (fr : Int), Ag a 234 [(1, .pointer (some ⟨b1, 0, none⟩)), (2, .pointer (some ⟨b2, 0, none⟩)), (3, .pointer (some ⟨l, 0, none⟩)), (4, .func (.func 71) #[] #[.pointer (some ⟨Bo, 0, none⟩), .pointer (some ⟨Ao, 0, none⟩)]), (5, .int .i64 fr), (6, .slice pw ws.length cw), (7, .int .i64 i)] (Ds.map K.mark) ∧ Sat W w [stars (Ds.map mblock), pto l (.cells #[.int .i64 M, .int .i64 (s + ((g : Nat) : Int)), .slice Al ((xs).length - g) cl] 103), row 3 1 (.slice Al ((xs).length - g) cl) ((xs).length - g) (((xs).drop g).map (Value.int .i64)), pto b1 (.cells #[.int .i64 m1, .int .i64 s1, .int .i64 m2, .int .i64 s2, .slice A ops.length c] 28), pto b2 (.cells #[.bool false] 4), pto Bo (.cells #[.slice po ws.length co] 54), row 3 1 (.slice po ws.length co) ws.length (ws.map (Value.int .i64)), pto Ao (.cells #[.int .i64 fr] 3), row 3 1 (.slice pw ws.length cw) ws.length (ws.map (Value.int .i64))] ∧ 0 ≤ i ∧ i ≤ ops.length ∧ ((xs.length : Int) ≤ 3 * i ∧ g ≤ xs.length ∧ ((xs.length - g : Nat) : Int) ≤ M) ∧ (0 ≤ fr ∧ fr ≤ 9000000000000000000 ∧ ws.length ≤ 64) ∧ mm = (ops.length - i).toNat) ops.length ?_ ?_
     · replace hA := hA.keep (.cons (i := 1) rfl (.cons (i := 2) rfl (.cons (i := 3) rfl (.cons (i := 4) rfl (.cons (i := 5) rfl (.cons (i := 6) rfl (.cons (i := 7) rfl .nil)))))))
       have e1 : wat s 0 0 [] = s := by unfold wat; simp; omega
       have e2 : frm s (wat s 0 0 []) 0 [] = [] := by unfold frm; split <;> simp
       rw [e2, e1] at hS
       rw [show s + ((0 : Nat) : Int) = s from by omega] at hA
       exact ⟨0, 0, [], none, 0, [], Bo, Ao, po, none, co, 0, [], s, hA, (((((((((((hS.row_nil 3 1).starsNil).p 1).p 5).p 5).p 5).p 7).p 8).p 8).p 8).p 8), by omega, by omega, ⟨by simp, by simp, by simpa using hM⟩, ⟨by omega, by omega, by simp⟩, by omega⟩
     intro m a w hI
     clear hS; obtain ⟨i, g, xs, Al, cl, Ds, Bo, Ao, po, pw, co, cw, ws, fr, hA, hS, hi0, hi1, ⟨hxi, hg, hgM⟩, ⟨hf0, hf1, hw64⟩, rfl⟩ := hI
     refine wp_seq_k fun k15 hk15 => ?_
     refine wp_seq_k fun k16 hk16 => ?_
     refine wp_region_lit ?_
     refine go1 hA rfl rfl rfl (r_move (hA.ev rfl)) ?_; clear hA a; intro a hA
     refine go1 hA rfl rfl rfl (r_field (hA.ev rfl) T.fo28_4) ?_; clear hA a; intro a hA
     refine go1 hA rfl rfl rfl (r_load (hA.ev rfl) T.fl26 (by first | exact hS.cell rfl | exact (hS.p 1).cell rfl | exact (hS.p 2).cell rfl | exact (hS.p 3).cell rfl | exact (hS.p 4).cell rfl | exact (hS.p 5).cell rfl | exact (hS.p 6).cell rfl | exact (hS.p 7).cell rfl | exact (hS.p 8).cell rfl | exact (hS.p 9).cell rfl | exact (hS.p 10).cell rfl | exact (hS.p 11).cell rfl | exact (hS.p 12).cell rfl | exact (hS.p 13).cell rfl | exact (hS.p 14).cell rfl | exact (hS.p 15).cell rfl | exact (hS.p 16).cell rfl | exact (hS.p 17).cell rfl | exact (hS.p 18).cell rfl | exact (hS.p 19).cell rfl)) ?_; clear hA a; intro a hA
     refine go1 hA rfl rfl rfl (r_lens (hA.ev rfl) T.un26) ?_; clear hA a; intro a hA
     refine go1s hA rfl rfl rfl (r_lss (hA.ev rfl) (hA.ev rfl)) ?_ ?_
     · clear hA a; intro h49 a hA
       obtain ⟨A', rfl⟩ : ∃ p, A = some p := hR.hasAddr (by omega)
       obtain ⟨o, ho⟩ : ∃ o, ops[i.toNat]? = some o := ⟨_, List.getElem?_eq_getElem (by omega)⟩
       have ⟨hw0, hw1⟩ := hw o (List.mem_of_getElem? ho)
       try (first | contradiction | (exfalso; omega) | (exfalso; simp at h49; done))
       all_goals
        skip
        refine wpList_nil ?_
        refine hk16 _ _ ?_
        clear hk16 k16
        refine wp_cond_true (hA.ev rfl) ?_
        refine wp_skip ?_
        refine hk15 _ _ ?_
        clear hk15 k15
        refine wp_seq_k fun k17 hk17 => ?_
        refine wp_block ?_
        refine wp_seq_k fun k18 hk18 => ?_
        refine wp_region_lit ?_
        refine go1 hA rfl rfl rfl (r_field (hA.ev rfl) T.fo28_4) ?_; clear hA a; intro a hA
        refine go1 hA rfl rfl rfl (r_load (hA.ev rfl) T.fl26 (by first | exact hS.cell rfl | exact (hS.p 1).cell rfl | exact (hS.p 2).cell rfl | exact (hS.p 3).cell rfl | exact (hS.p 4).cell rfl | exact (hS.p 5).cell rfl | exact (hS.p 6).cell rfl | exact (hS.p 7).cell rfl | exact (hS.p 8).cell rfl | exact (hS.p 9).cell rfl | exact (hS.p 10).cell rfl | exact (hS.p 11).cell rfl | exact (hS.p 12).cell rfl | exact (hS.p 13).cell rfl | exact (hS.p 14).cell rfl | exact (hS.p 15).cell rfl | exact (hS.p 16).cell rfl | exact (hS.p 17).cell rfl | exact (hS.p 18).cell rfl | exact (hS.p 19).cell rfl)) ?_; clear hA a; intro a hA
        refine go1 hA rfl rfl rfl (r_move (hA.ev rfl)) ?_; clear hA a; intro a hA
        refine go1 hA rfl rfl rfl (r_index (hA.ev rfl) (hA.ev rfl) T.un26 T.sz34 (by omega) (by omega)) ?_; clear hA a; intro a hA
        refine go1 hA rfl rfl rfl (r_loadS (cs := encO o) (hA.ev rfl) T.ag34 T.sz34 ((hR.sat hS).elem (op_at ho))) ?_; clear hA a; intro a hA
        refine goN hA rfl T.zv34 hS ?_
        clear hA a hS; intro b8 w hS a hA
        first | refine goWS2 (vs := [_, _, _, _]) (cs' := [_, _, _, _]) hA rfl rfl T.sz34 (by simp [Value.oneCell']) hS rfl rfl ?_ | refine goWS2 (vs := [_, _, _, _]) (cs' := [_, _, _, _]) hA rfl rfl T.sz34 (by simp [Value.oneCell']) (hS.p 1) rfl rfl ?_ | refine goWS2 (vs := [_, _, _, _]) (cs' := [_, _, _, _]) hA rfl rfl T.sz34 (by simp [Value.oneCell']) (hS.p 2) rfl rfl ?_ | refine goWS2 (vs := [_, _, _, _]) (cs' := [_, _, _, _]) hA rfl rfl T.sz34 (by simp [Value.oneCell']) (hS.p 3) rfl rfl ?_ | refine goWS2 (vs := [_, _, _, _]) (cs' := [_, _, _, _]) hA rfl rfl T.sz34 (by simp [Value.oneCell']) (hS.p 4) rfl rfl ?_ | refine goWS2 (vs := [_, _, _, _]) (cs' := [_, _, _, _]) hA rfl rfl T.sz34 (by simp [Value.oneCell']) (hS.p 5) rfl rfl ?_ | refine goWS2 (vs := [_, _, _, _]) (cs' := [_, _, _, _]) hA rfl rfl T.sz34 (by simp [Value.oneCell']) (hS.p 6) rfl rfl ?_ | refine goWS2 (vs := [_, _, _, _]) (cs' := [_, _, _, _]) hA rfl rfl T.sz34 (by simp [Value.oneCell']) (hS.p 7) rfl rfl ?_ | refine goWS2 (vs := [_, _, _, _]) (cs' := [_, _, _, _]) hA rfl rfl T.sz34 (by simp [Value.oneCell']) (hS.p 8) rfl rfl ?_ | refine goWS2 (vs := [_, _, _, _]) (cs' := [_, _, _, _]) hA rfl rfl T.sz34 (by simp [Value.oneCell']) (hS.p 9) rfl rfl ?_ | refine goWS2 (vs := [_, _, _, _]) (cs' := [_, _, _, _]) hA rfl rfl T.sz34 (by simp [Value.oneCell']) (hS.p 10) rfl rfl ?_ | refine goWS2 (vs := [_, _, _, _]) (cs' := [_, _, _, _]) hA rfl rfl T.sz34 (by simp [Value.oneCell']) (hS.p 11) rfl rfl ?_ | refine goWS2 (vs := [_, _, _, _]) (cs' := [_, _, _, _]) hA rfl rfl T.sz34 (by simp [Value.oneCell']) (hS.p 12) rfl rfl ?_ | refine goWS2 (vs := [_, _, _, _]) (cs' := [_, _, _, _]) hA rfl rfl T.sz34 (by simp [Value.oneCell']) (hS.p 13) rfl rfl ?_ | refine goWS2 (vs := [_, _, _, _]) (cs' := [_, _, _, _]) hA rfl rfl T.sz34 (by simp [Value.oneCell']) (hS.p 14) rfl rfl ?_ | refine goWS2 (vs := [_, _, _, _]) (cs' := [_, _, _, _]) hA rfl rfl T.sz34 (by simp [Value.oneCell']) (hS.p 15) rfl rfl ?_ | refine goWS2 (vs := [_, _, _, _]) (cs' := [_, _, _, _]) hA rfl rfl T.sz34 (by simp [Value.oneCell']) (hS.p 16) rfl rfl ?_ | refine goWS2 (vs := [_, _, _, _]) (cs' := [_, _, _, _]) hA rfl rfl T.sz34 (by simp [Value.oneCell']) (hS.p 17) rfl rfl ?_ | refine goWS2 (vs := [_, _, _, _]) (cs' := [_, _, _, _]) hA rfl rfl T.sz34 (by simp [Value.oneCell']) (hS.p 18) rfl rfl ?_ | refine goWS2 (vs := [_, _, _, _]) (cs' := [_, _, _, _]) hA rfl rfl T.sz34 (by simp [Value.oneCell']) (hS.p 19) rfl rfl ?_
        clear hS; intro w hS
        refine wpList_nil ?_
        refine hk18 _ _ ?_
        clear hk18 k18
        refine wp_seq_cut (fun a w => ∃ (g : Nat) (xs : List Int) (Al : Option Addr) (cl : Nat), Ag a 234 [(1, .pointer (some ⟨b1, 0, none⟩)), (2, .pointer (some ⟨b2, 0, none⟩)), (3, .pointer (some ⟨l, 0, none⟩)), (4, .func (.func 71) #[] #[.pointer (some ⟨Bo, 0, none⟩), .pointer (some ⟨Ao, 0, none⟩)]), (5, .int .i64 fr), (6, .slice pw ws.length cw), (7, .int .i64 i), (8, .pointer (some ⟨b8, 0, none⟩))] (Ds.map K.mark) ∧ Sat W w [pto b8 (.cells #[.int .i64 o.k, .bool o.s, .int .i64 o.n, .int .i64 o.x] 34), stars (Ds.map mblock), pto l (.cells #[.int .i64 M, .int .i64 (s + ((g : Nat) : Int)), .slice Al ((xs).length - g) cl] 103), row 3 1 (.slice Al ((xs).length - g) cl) ((xs).length - g) (((xs).drop g).map (Value.int .i64)), pto b1 (.cells #[.int .i64 m1, .int .i64 s1, .int .i64 m2, .int .i64 s2, .slice (some A') ops.length c] 28), pto b2 (.cells #[.bool false] 4), pto Bo (.cells #[.slice po ws.length co] 54), row 3 1 (.slice po ws.length co) ws.length (ws.map (Value.int .i64)), pto Ao (.cells #[.int .i64 fr] 3), row 3 1 (.slice pw ws.length cw) ws.length (ws.map (Value.int .i64))] ∧ ((xs.length : Int) ≤ 3 * i + 1) ∧ (g ≤ xs.length) ∧ (((xs.length - g : Nat) : Int) ≤ M)) ?_ ?_
        · skip
          refine wp_seq_k fun k19 hk19 => ?_
          refine wp_region_lit ?_
          refine go1 hA rfl rfl rfl (r_field (hA.ev rfl) T.fo34_0) ?_; clear hA a; intro a hA
          refine go1 hA rfl rfl rfl (r_load (hA.ev rfl) T.fl3 (by first | exact hS.cell rfl | exact (hS.p 1).cell rfl | exact (hS.p 2).cell rfl | exact (hS.p 3).cell rfl | exact (hS.p 4).cell rfl | exact (hS.p 5).cell rfl | exact (hS.p 6).cell rfl | exact (hS.p 7).cell rfl | exact (hS.p 8).cell rfl | exact (hS.p 9).cell rfl | exact (hS.p 10).cell rfl | exact (hS.p 11).cell rfl | exact (hS.p 12).cell rfl | exact (hS.p 13).cell rfl | exact (hS.p 14).cell rfl | exact (hS.p 15).cell rfl | exact (hS.p 16).cell rfl | exact (hS.p 17).cell rfl | exact (hS.p 18).cell rfl | exact (hS.p 19).cell rfl)) ?_; clear hA a; intro a hA
          refine go1s hA rfl rfl rfl (r_eql (hA.ev rfl) (hA.ev rfl)) ?_ ?_
          · clear hA a; intro h59 a hA
            try (first | contradiction | (exfalso; omega) | (exfalso; simp at h59; done))
            all_goals
             skip
             refine wpList_nil ?_
             refine hk19 _ _ ?_
             clear hk19 k19
             refine wp_cond_true (hA.ev rfl) ?_
             refine wp_region_lit ?_
             refine go1 hA rfl rfl rfl (r_move (hA.ev rfl)) ?_; clear hA a; intro a hA
             refine go1 hA rfl rfl rfl (r_field (hA.ev rfl) T.fo34_3) ?_; clear hA a; intro a hA
             refine go1 hA rfl rfl rfl (r_load (hA.ev rfl) T.fl3 (by first | exact hS.cell rfl | exact (hS.p 1).cell rfl | exact (hS.p 2).cell rfl | exact (hS.p 3).cell rfl | exact (hS.p 4).cell rfl | exact (hS.p 5).cell rfl | exact (hS.p 6).cell rfl | exact (hS.p 7).cell rfl | exact (hS.p 8).cell rfl | exact (hS.p 9).cell rfl | exact (hS.p 10).cell rfl | exact (hS.p 11).cell rfl | exact (hS.p 12).cell rfl | exact (hS.p 13).cell rfl | exact (hS.p 14).cell rfl | exact (hS.p 15).cell rfl | exact (hS.p 16).cell rfl | exact (hS.p 17).cell rfl | exact (hS.p 18).cell rfl | exact (hS.p 19).cell rfl)) ?_; clear hA a; intro a hA
             refine goF hA rfl T.en19 rfl (IPush _ _ _ _ _ _ xs _ _ _ _ ((hS.p 3).p 3) hM hM2 hs hs2 hg hgM (by omega)) ?_
             clear hA a; clear hS; rintro e w ⟨rfl, Al, cl, hS⟩
             refine ⟨_, rfl, ?_⟩; intro a hA
             refine wpList_nil ?_
             replace hA := hA.keep (.cons (i := 1) rfl (.cons (i := 2) rfl (.cons (i := 3) rfl (.cons (i := 4) rfl (.cons (i := 5) rfl (.cons (i := 6) rfl (.cons (i := 7) rfl (.cons (i := 8) rfl .nil))))))))
             first
               | exact ⟨_, _, _, _, hA, hS, (by first | omega | (simp only [len1, gN]; omega) | (simp only [kT]; omega)), (by first | omega | (simp only [len1, gN]; omega) | (simp only [kT]; omega)), (by first | omega | (simp only [len1, gN]; omega) | (simp only [kT]; omega))⟩
               | exact ⟨_, _, _, _, hA, ((((hS.p 1).p 1).p 3).p 3), (by first | omega | (simp only [len1, gN]; omega) | (simp only [kT]; omega)), (by first | omega | (simp only [len1, gN]; omega) | (simp only [kT]; omega)), (by first | omega | (simp only [len1, gN]; omega) | (simp only [kT]; omega))⟩
          · clear hA a; intro h59 a hA
            try (first | contradiction | (exfalso; omega) | (exfalso; simp at h59; done))
            all_goals
             skip
             refine wpList_nil ?_
             refine hk19 _ _ ?_
             clear hk19 k19
             refine wp_cond_false (hA.ev rfl) ?_
             refine wp_skip ?_
             replace hA := hA.keep (.cons (i := 1) rfl (.cons (i := 2) rfl (.cons (i := 3) rfl (.cons (i := 4) rfl (.cons (i := 5) rfl (.cons (i := 6) rfl (.cons (i := 7) rfl (.cons (i := 8) rfl .nil))))))))
             first
               | exact ⟨_, _, _, _, hA, hS, (by first | omega | (simp only [len1, gN]; omega) | (simp only [kT]; omega)), (by first | omega | (simp only [len1, gN]; omega) | (simp only [kT]; omega)), (by first | omega | (simp only [len1, gN]; omega) | (simp only [kT]; omega))⟩
               | exact ⟨_, _, _, _, hA, ((((hS.p 1).p 1).p 3).p 3), (by first | omega | (simp only [len1, gN]; omega) | (simp only [kT]; omega)), (by first | omega | (simp only [len1, gN]; omega) | (simp only [kT]; omega)), (by first | omega | (simp only [len1, gN]; omega) | (simp only [kT]; omega))⟩
        · skip
          intro a w hI
          clear hS hA; obtain ⟨g, xs, Al, cl, hA, hS, hxi, hg, hgM⟩ := hI
          refine wp_seq_k fun k20 hk20 => ?_
          refine wp_seq_k fun k21 hk21 => ?_
          refine wp_region_lit ?_
          refine go1 hA rfl rfl rfl (r_field (hA.ev rfl) T.fo34_0) ?_; clear hA a; intro a hA
          refine go1 hA rfl rfl rfl (r_load (hA.ev rfl) T.fl3 (by first | exact hS.cell rfl | exact (hS.p 1).cell rfl | exact (hS.p 2).cell rfl | exact (hS.p 3).cell rfl | exact (hS.p 4).cell rfl | exact (hS.p 5).cell rfl | exact (hS.p 6).cell rfl | exact (hS.p 7).cell rfl | exact (hS.p 8).cell rfl | exact (hS.p 9).cell rfl | exact (hS.p 10).cell rfl | exact (hS.p 11).cell rfl | exact (hS.p 12).cell rfl | exact (hS.p 13).cell rfl | exact (hS.p 14).cell rfl | exact (hS.p 15).cell rfl | exact (hS.p 16).cell rfl | exact (hS.p 17).cell rfl | exact (hS.p 18).cell rfl | exact (hS.p 19).cell rfl)) ?_; clear hA a; intro a hA
          refine go1s hA rfl rfl rfl (r_neq (hA.ev rfl) (hA.ev rfl)) ?_ ?_
          · clear hA a; intro h66 a hA
            try (first | contradiction | (exfalso; omega) | (exfalso; simp at h66; done))
            all_goals
             skip
             refine wpList_nil ?_
             refine hk21 _ _ ?_
             clear hk21 k21
             refine wp_cond_true (hA.ev rfl) ?_
             refine wp_exit ?_
             refine then_exit ?_; clear hk20 k20
             refine block_hit ?_
             refine hk17 _ _ ?_
             clear hk17 k17
             refine wp_region_lit ?_
             refine go1 hA rfl rfl rfl (r_move (hA.ev rfl)) ?_; clear hA a; intro a hA
             refine go1 hA rfl rfl rfl (r_add64 (hA.ev rfl) (hA.ev rfl) (by omega) (by omega)) ?_; clear hA a; intro a hA
             refine go1 hA rfl rfl rfl (r_assign (hA.ev rfl)) ?_; clear hA a; intro a hA
             refine wpList_nil ?_
             replace hA := hA.keep (.cons (i := 1) rfl (.cons (i := 2) rfl (.cons (i := 3) rfl (.cons (i := 4) rfl (.cons (i := 5) rfl (.cons (i := 6) rfl (.cons (i := 7) rfl .nil)))))))
             first
               | exact ⟨(ops.length - (i + 1)).toNat, by omega, i + 1, _, _, _, _, _, _, _, _, _, _, _, _, _, hA, hS.drop, by omega, by omega, ⟨by omega, hg, hgM⟩, ⟨hf0, hf1, hw64⟩, rfl⟩
               | exact ⟨(ops.length - (i + 1)).toNat, by omega, i + 1, g2, xs2, _, _, Ds3, _, _, _, _, _, _, ys, _, hA, (((((((((((((((((hS.p 7).p 5).p 5).p 5).p 16).p 16).p 16).p 16).p 8).p 16).p 16).p 16).p 16).p 16).p 16).p 16).p 16).drop.drop.drop.drop.drop.drop.drop.drop, by omega, by omega, ⟨by omega, hg2, hgM2⟩, ⟨by omega, by omega, hyl⟩, rfl⟩
          · clear hA a; intro h66 a hA
            try (first | contradiction | (exfalso; omega) | (exfalso; simp at h66; done))
            all_goals
             skip
             refine wpList_nil ?_
             refine hk21 _ _ ?_
             clear hk21 k21
             refine wp_cond_false (hA.ev rfl) ?_
             refine wp_skip ?_
             refine hk20 _ _ ?_
             clear hk20 k20
             refine wp_seq_k fun k22 hk22 => ?_
             refine wp_region_lit ?_
             refine go1 hA rfl rfl rfl (r_move (hA.ev rfl)) ?_; clear hA a; intro a hA
             refine goF hA rfl T.en18 rfl (IntFirst_calls _ _ _ _ _ _ _ _ _ (hS.p 2)) ?_
             clear hA a; clear hS; rintro e w ⟨rfl, hS⟩
             refine ⟨_, rfl, ?_⟩; intro a hA
             refine go1 hA rfl rfl rfl (r_move (hA.ev rfl)) ?_; clear hA a; intro a hA
             refine goF hA rfl T.en17 rfl (IntNext_calls _ _ _ _ _ _ _ _ _ hS (by omega) (by omega)) ?_
             clear hA a; clear hS; rintro e w ⟨rfl, hS⟩; rw [show s + (g : Int) + ((xs.length - g : Nat) : Int) = s + xs.length from by omega]
             refine ⟨_, rfl, ?_⟩; intro a hA
             refine goN hA rfl T.zv3 hS ?_
             clear hA a hS; intro b9 w hS a hA
             first | refine goW2 (cs' := [_]) hA rfl rfl T.fl3 T.sz3 rfl hS rfl rfl ?_ | refine goW2 (cs' := [_]) hA rfl rfl T.fl3 T.sz3 rfl (hS.p 1) rfl rfl ?_ | refine goW2 (cs' := [_]) hA rfl rfl T.fl3 T.sz3 rfl (hS.p 2) rfl rfl ?_ | refine goW2 (cs' := [_]) hA rfl rfl T.fl3 T.sz3 rfl (hS.p 3) rfl rfl ?_ | refine goW2 (cs' := [_]) hA rfl rfl T.fl3 T.sz3 rfl (hS.p 4) rfl rfl ?_ | refine goW2 (cs' := [_]) hA rfl rfl T.fl3 T.sz3 rfl (hS.p 5) rfl rfl ?_ | refine goW2 (cs' := [_]) hA rfl rfl T.fl3 T.sz3 rfl (hS.p 6) rfl rfl ?_ | refine goW2 (cs' := [_]) hA rfl rfl T.fl3 T.sz3 rfl (hS.p 7) rfl rfl ?_ | refine goW2 (cs' := [_]) hA rfl rfl T.fl3 T.sz3 rfl (hS.p 8) rfl rfl ?_ | refine goW2 (cs' := [_]) hA rfl rfl T.fl3 T.sz3 rfl (hS.p 9) rfl rfl ?_ | refine goW2 (cs' := [_]) hA rfl rfl T.fl3 T.sz3 rfl (hS.p 10) rfl rfl ?_ | refine goW2 (cs' := [_]) hA rfl rfl T.fl3 T.sz3 rfl (hS.p 11) rfl rfl ?_ | refine goW2 (cs' := [_]) hA rfl rfl T.fl3 T.sz3 rfl (hS.p 12) rfl rfl ?_ | refine goW2 (cs' := [_]) hA rfl rfl T.fl3 T.sz3 rfl (hS.p 13) rfl rfl ?_ | refine goW2 (cs' := [_]) hA rfl rfl T.fl3 T.sz3 rfl (hS.p 14) rfl rfl ?_ | refine goW2 (cs' := [_]) hA rfl rfl T.fl3 T.sz3 rfl (hS.p 15) rfl rfl ?_ | refine goW2 (cs' := [_]) hA rfl rfl T.fl3 T.sz3 rfl (hS.p 16) rfl rfl ?_ | refine goW2 (cs' := [_]) hA rfl rfl T.fl3 T.sz3 rfl (hS.p 17) rfl rfl ?_ | refine goW2 (cs' := [_]) hA rfl rfl T.fl3 T.sz3 rfl (hS.p 18) rfl rfl ?_ | refine goW2 (cs' := [_]) hA rfl rfl T.fl3 T.sz3 rfl (hS.p 19) rfl rfl ?_
             clear hS; intro w hS
             refine go1 hA rfl rfl rfl (r_assign (hA.ev rfl)) ?_; clear hA a; intro a hA
             refine wpList_nil ?_
             refine hk22 _ _ ?_
             clear hk22 k22
             refine wp_seq_k fun k23 hk23 => ?_
             refine wp_seq_k fun k24 hk24 => ?_
             refine wp_region_lit ?_
             refine go1 hA rfl rfl rfl (r_move (hA.ev rfl)) ?_; clear hA a; intro a hA
             refine go1 hA rfl rfl rfl (r_load (hA.ev rfl) T.fl3 (by first | exact hS.cell rfl | exact (hS.p 1).cell rfl | exact (hS.p 2).cell rfl | exact (hS.p 3).cell rfl | exact (hS.p 4).cell rfl | exact (hS.p 5).cell rfl | exact (hS.p 6).cell rfl | exact (hS.p 7).cell rfl | exact (hS.p 8).cell rfl | exact (hS.p 9).cell rfl | exact (hS.p 10).cell rfl | exact (hS.p 11).cell rfl | exact (hS.p 12).cell rfl | exact (hS.p 13).cell rfl | exact (hS.p 14).cell rfl | exact (hS.p 15).cell rfl | exact (hS.p 16).cell rfl | exact (hS.p 17).cell rfl | exact (hS.p 18).cell rfl | exact (hS.p 19).cell rfl)) ?_; clear hA a; intro a hA
             refine go1 hA rfl rfl rfl (r_sub64 (hA.ev rfl) (hA.ev rfl) (by omega) (by omega)) ?_; clear hA a; intro a hA
             refine go1 hA rfl rfl rfl (as_f (r_gtr (hA.ev rfl) (hA.ev rfl)) (by omega)) ?_; clear hA a; intro a hA
             refine wpList_nil ?_
             refine hk24 _ _ ?_
             clear hk24 k24
             refine wp_cond_false (hA.ev rfl) ?_
             refine wp_skip ?_
             refine hk23 _ _ ?_
             clear hk23 k23
             refine wp_seq_k fun k25 hk25 => ?_
             refine wp_region_lit ?_
             refine goN hA rfl T.zv54 hS ?_
             clear hA a hS; intro b11 w hS a hA
             refine wpList_nil ?_
             refine hk25 _ _ ?_
             clear hk25 k25
             refine wp_seq_k fun k26 hk26 => ?_
             refine wp_seq_k fun k27 hk27 => ?_
             refine wp_region_lit ?_
             refine go1 hA rfl rfl rfl (r_load (hA.ev rfl) T.fl3 (by first | exact hS.cell rfl | exact (hS.p 1).cell rfl | exact (hS.p 2).cell rfl | exact (hS.p 3).cell rfl | exact (hS.p 4).cell rfl | exact (hS.p 5).cell rfl | exact (hS.p 6).cell rfl | exact (hS.p 7).cell rfl | exact (hS.p 8).cell rfl | exact (hS.p 9).cell rfl | exact (hS.p 10).cell rfl | exact (hS.p 11).cell rfl | exact (hS.p 12).cell rfl | exact (hS.p 13).cell rfl | exact (hS.p 14).cell rfl | exact (hS.p 15).cell rfl | exact (hS.p 16).cell rfl | exact (hS.p 17).cell rfl | exact (hS.p 18).cell rfl | exact (hS.p 19).cell rfl)) ?_; clear hA a; intro a hA
             refine go1 hA rfl rfl rfl (r_assign (hA.ev rfl)) ?_; clear hA a; intro a hA
             refine wpList_nil ?_
             refine hk27 _ _ ?_
             clear hk27 k27
             refine wp_block ?_
             refine wp_loop_ghost (fun (mm : Nat) a w => ∃ (k : Nat) (n : Int) (ph : Option Addr) (ch : Nat), Ag a 234 [(1, .pointer (some ⟨b1, 0, none⟩)), (2, .pointer (some ⟨b2, 0, none⟩)), (3, .pointer (some ⟨l, 0, none⟩)), (4, .func (.func 71) #[] #[.pointer (some ⟨Bo, 0, none⟩), .pointer (some ⟨Ao, 0, none⟩)]), (5, .int .i64 fr), (6, .slice pw ws.length cw), (7, .int .i64 i), (8, .pointer (some ⟨b8, 0, none⟩)), (9, .pointer (some ⟨b9, 0, none⟩)), (10, .int .i64 (s + xs.length)), (11, .pointer (some ⟨b11, 0, none⟩)), (12, .int .i64 n)] (Ds.map K.mark) ∧ Sat W w [pto b11 (.cells #[.slice ph k ch] 54), row 3 1 (.slice ph k ch) k (((xs.drop g).take k).map (Value.int .i64)), pto b9 (.cells #[.int .i64 (s + (g : Int))] 3), pto l (.cells #[.int .i64 M, .int .i64 (s + ((g : Nat) : Int)), .slice Al ((xs).length - g) cl] 103), row 3 1 (.slice Al ((xs).length - g) cl) ((xs).length - g) (((xs).drop g).map (Value.int .i64)), pto b8 (.cells #[.int .i64 o.k, .bool o.s, .int .i64 o.n, .int .i64 o.x] 34), stars (Ds.map mblock), pto b1 (.cells #[.int .i64 m1, .int .i64 s1, .int .i64 m2, .int .i64 s2, .slice (some A') ops.length c] 28), pto b2 (.cells #[.bool false] 4), pto Bo (.cells #[.slice po ws.length co] 54), row 3 1 (.slice po ws.length co) ws.length (ws.map (Value.int .i64)), pto Ao (.cells #[.int .i64 fr] 3), row 3 1 (.slice pw ws.length cw) ws.length (ws.map (Value.int .i64))] ∧ n = s + g + k ∧ g + k ≤ xs.length ∧ mm = xs.length - (g + k)) (xs.length - g) ?_ ?_
             · replace hA := hA.keep (.cons (i := 1) rfl (.cons (i := 2) rfl (.cons (i := 3) rfl (.cons (i := 4) rfl (.cons (i := 5) rfl (.cons (i := 6) rfl (.cons (i := 7) rfl (.cons (i := 8) rfl (.cons (i := 9) rfl (.cons (i := 10) rfl (.cons (i := 11) rfl (.cons (i := 12) rfl .nil))))))))))))
               exact ⟨0, s + g, none, 0, hA, ((((((((((((((hS.row_nil 3 1).p 12).p 12).p 12).p 12).p 12).p 12).p 11).p 11).p 12).p 12).p 12).p 11).p 12), by omega, by omega, by omega⟩
             intro m a w hI
             clear hS; obtain ⟨k, n, ph, ch, hA, hS, hn, hgk, rfl⟩ := hI
             refine wp_seq_k fun k28 hk28 => ?_
             refine wp_seq_k fun k29 hk29 => ?_
             refine wp_region_lit ?_
             refine go1 hA rfl rfl rfl (r_move (hA.ev rfl)) ?_; clear hA a; intro a hA
             refine go1 hA rfl rfl rfl (r_move (hA.ev rfl)) ?_; clear hA a; intro a hA
             refine go1s hA rfl rfl rfl (r_lss (hA.ev rfl) (hA.ev rfl)) ?_ ?_
             · clear hA a; intro h78 a hA
               try (first | contradiction | (exfalso; omega) | (exfalso; simp at h78; done))
               all_goals
                skip
                refine wpList_nil ?_
                refine hk29 _ _ ?_
                clear hk29 k29
                refine wp_cond_true (hA.ev rfl) ?_
                refine wp_skip ?_
                refine hk28 _ _ ?_
                clear hk28 k28
                refine wp_seq_k fun k30 hk30 => ?_
                refine wp_block ?_
                refine wp_seq_k fun k31 hk31 => ?_
                refine wp_region_lit ?_
                refine go1 hA rfl rfl rfl (r_move (hA.ev rfl)) ?_; clear hA a; intro a hA
                refine go1 hA rfl rfl rfl (r_move (hA.ev rfl)) ?_; clear hA a; intro a hA
                refine goF hA rfl T.en53 rfl (IAtv _ _ _ _ _ _ xs _ _ _ _ ((hS.p 4).p 4) hM hM2 hs hs2 hg hgM (by omega) (by omega) (by omega)) ?_
                clear hA a; clear hS; rintro e w ⟨rfl, hS⟩; obtain ⟨hv1, hv2⟩ := drop_at (s := s) (g := g) (k := k) (xs := xs) (by omega); rw [hn, hv1, hv2]
                refine ⟨_, rfl, ?_⟩; intro a hA
                refine go1 hA rfl rfl rfl (r_move (hA.ev rfl)) ?_; clear hA a; intro a hA
                refine go1 hA rfl rfl rfl (r_ext (hA.ev rfl) rfl) ?_; clear hA a; intro a hA
                refine go1b hA rfl rfl rfl (r_ext (hA.ev rfl) rfl) ?_ ?_
                · clear hA a; intro h86 a hA
                  try simp only [decide_eq_decide, decide_eq_true_eq, decide_eq_false_iff_not, Bool.not_eq_true', Bool.not_eq_false', bne_iff_ne, ne_eq, beq_iff_eq, Bool.not_eq_true, Bool.not_eq_false] at h86
                  try (first | contradiction | (exfalso; omega) | (exfalso; simp at h86; done))
                  all_goals
                   skip
                   refine go1 hA rfl rfl rfl (r_assign (hA.ev rfl)) ?_; clear hA a; intro a hA
                   refine go1 hA rfl rfl rfl (r_assign (hA.ev rfl)) ?_; clear hA a; intro a hA
                   refine wpList_nil ?_
                   refine hk31 _ _ ?_
                   clear hk31 k31
                   refine wp_seq_k fun k32 hk32 => ?_
                   refine wp_seq_k fun k33 hk33 => ?_
                   refine wp_region_lit ?_
                   refine go1 hA rfl rfl rfl (r_move (hA.ev rfl)) ?_; clear hA a; intro a hA
                   refine go1 hA rfl rfl rfl (r_not (hA.ev rfl)) ?_; clear hA a; intro a hA
                   refine wpList_nil ?_
                   refine hk33 _ _ ?_
                   clear hk33 k33
                   refine wp_cond_false (hA.ev rfl) ?_
                   refine wp_skip ?_
                   refine hk32 _ _ ?_
                   clear hk32 k32
                   refine wp_region_lit ?_
                   refine go1 hA rfl rfl rfl (r_load (hA.ev rfl) T.fl54 (by first | exact hS.cell rfl | exact (hS.p 1).cell rfl | exact (hS.p 2).cell rfl | exact (hS.p 3).cell rfl | exact (hS.p 4).cell rfl | exact (hS.p 5).cell rfl | exact (hS.p 6).cell rfl | exact (hS.p 7).cell rfl | exact (hS.p 8).cell rfl | exact (hS.p 9).cell rfl | exact (hS.p 10).cell rfl | exact (hS.p 11).cell rfl | exact (hS.p 12).cell rfl | exact (hS.p 13).cell rfl | exact (hS.p 14).cell rfl | exact (hS.p 15).cell rfl | exact (hS.p 16).cell rfl | exact (hS.p 17).cell rfl | exact (hS.p 18).cell rfl | exact (hS.p 19).cell rfl)) ?_; clear hA a; intro a hA
                   refine go1 hA rfl rfl rfl (r_move (hA.ev rfl)) ?_; clear hA a; intro a hA
                   refine goL hA rfl rfl T.un54 T.el3 rfl rfl rfl (by simp [Value.oneCell']) hS ?_
                   clear hA a hS; intro A91 w hS a hA
                   refine goA' hA rfl rfl rfl T.un54 T.el3 rfl (hS.p 4) (hS.rd.src T.un54 (by simp [Value.oneCell'])) (by omega) (by omega) ?_
                   clear hA a hS; intro A92 c92 w hc92 hS a hA
                   first | refine goW2 (cs' := [_]) hA rfl rfl T.fl54 T.sz54 rfl hS rfl rfl ?_ | refine goW2 (cs' := [_]) hA rfl rfl T.fl54 T.sz54 rfl (hS.p 1) rfl rfl ?_ | refine goW2 (cs' := [_]) hA rfl rfl T.fl54 T.sz54 rfl (hS.p 2) rfl rfl ?_ | refine goW2 (cs' := [_]) hA rfl rfl T.fl54 T.sz54 rfl (hS.p 3) rfl rfl ?_ | refine goW2 (cs' := [_]) hA rfl rfl T.fl54 T.sz54 rfl (hS.p 4) rfl rfl ?_ | refine goW2 (cs' := [_]) hA rfl rfl T.fl54 T.sz54 rfl (hS.p 5) rfl rfl ?_ | refine goW2 (cs' := [_]) hA rfl rfl T.fl54 T.sz54 rfl (hS.p 6) rfl rfl ?_ | refine goW2 (cs' := [_]) hA rfl rfl T.fl54 T.sz54 rfl (hS.p 7) rfl rfl ?_ | refine goW2 (cs' := [_]) hA rfl rfl T.fl54 T.sz54 rfl (hS.p 8) rfl rfl ?_ | refine goW2 (cs' := [_]) hA rfl rfl T.fl54 T.sz54 rfl (hS.p 9) rfl rfl ?_ | refine goW2 (cs' := [_]) hA rfl rfl T.fl54 T.sz54 rfl (hS.p 10) rfl rfl ?_ | refine goW2 (cs' := [_]) hA rfl rfl T.fl54 T.sz54 rfl (hS.p 11) rfl rfl ?_ | refine goW2 (cs' := [_]) hA rfl rfl T.fl54 T.sz54 rfl (hS.p 12) rfl rfl ?_ | refine goW2 (cs' := [_]) hA rfl rfl T.fl54 T.sz54 rfl (hS.p 13) rfl rfl ?_ | refine goW2 (cs' := [_]) hA rfl rfl T.fl54 T.sz54 rfl (hS.p 14) rfl rfl ?_ | refine goW2 (cs' := [_]) hA rfl rfl T.fl54 T.sz54 rfl (hS.p 15) rfl rfl ?_ | refine goW2 (cs' := [_]) hA rfl rfl T.fl54 T.sz54 rfl (hS.p 16) rfl rfl ?_ | refine goW2 (cs' := [_]) hA rfl rfl T.fl54 T.sz54 rfl (hS.p 17) rfl rfl ?_ | refine goW2 (cs' := [_]) hA rfl rfl T.fl54 T.sz54 rfl (hS.p 18) rfl rfl ?_ | refine goW2 (cs' := [_]) hA rfl rfl T.fl54 T.sz54 rfl (hS.p 19) rfl rfl ?_
                   clear hS; intro w hS
                   refine wpList_nil ?_
                   refine block_normal ?_
                   refine hk30 _ _ ?_
                   clear hk30 k30
                   refine wp_region_lit ?_
                   refine go1 hA rfl rfl rfl (r_move (hA.ev rfl)) ?_; clear hA a; intro a hA
                   refine go1 hA rfl rfl rfl (r_add64 (hA.ev rfl) (hA.ev rfl) (by omega) (by omega)) ?_; clear hA a; intro a hA
                   refine go1 hA rfl rfl rfl (r_assign (hA.ev rfl)) ?_; clear hA a; intro a hA
                   refine wpList_nil ?_
                   replace hA := hA.keep (.cons (i := 1) rfl (.cons (i := 2) rfl (.cons (i := 3) rfl (.cons (i := 4) rfl (.cons (i := 5) rfl (.cons (i := 6) rfl (.cons (i := 7) rfl (.cons (i := 8) rfl (.cons (i := 9) rfl (.cons (i := 10) rfl (.cons (i := 11) rfl (.cons (i := 12) rfl .nil))))))))))))
                   have hx : (xs.drop g)[k]? = some ((xs.drop g).getD k 0) := by
                     rw [List.getD_eq_getElem?_getD, List.getElem?_eq_getElem (by rw [List.length_drop]; omega)]; rfl
                   have e9 : ((xs.drop g).take k).map (Value.int .i64) ++ [Value.int .i64 ((xs.drop g).getD k 0)] = ((xs.drop g).take (k + 1)).map (Value.int .i64) := by rw [take_snoc hx, List.map_append]; rfl
                   rw [e9] at hS
                   exact ⟨xs.length - (g + (k + 1)), by omega, k + 1, _, _, _, hA, ((((((hS.p 4).p 4).p 5).p 4).p 4).p 5).drop, by omega, by omega, rfl⟩
                · clear hA a; intro h86 a hA
                  try simp only [decide_eq_decide, decide_eq_true_eq, decide_eq_false_iff_not, Bool.not_eq_true', Bool.not_eq_false', bne_iff_ne, ne_eq, beq_iff_eq, Bool.not_eq_true, Bool.not_eq_false] at h86
                  try (first | contradiction | (exfalso; omega) | (exfalso; simp at h86; done))
                  all_goals
                   skip
                   refine go1 hA rfl rfl rfl (r_assign (hA.ev rfl)) ?_; clear hA a; intro a hA
                   refine go1 hA rfl rfl rfl (r_assign (hA.ev rfl)) ?_; clear hA a; intro a hA
                   refine wpList_nil ?_
                   refine hk31 _ _ ?_
                   clear hk31 k31
                   refine wp_seq_k fun k34 hk34 => ?_
                   refine wp_seq_k fun k35 hk35 => ?_
                   refine wp_region_lit ?_
                   refine go1 hA rfl rfl rfl (r_move (hA.ev rfl)) ?_; clear hA a; intro a hA
                   refine go1 hA rfl rfl rfl (r_not (hA.ev rfl)) ?_; clear hA a; intro a hA
                   refine wpList_nil ?_
                   refine hk35 _ _ ?_
                   clear hk35 k35
                   refine wp_cond_true (hA.ev rfl) ?_
                   refine wp_seq_k fun k36 hk36 => ?_
                   refine wp_region_lit ?_
                   first | refine goW2 (cs' := [_]) hA rfl rfl T.fl4 T.sz4 rfl hS rfl rfl ?_ | refine goW2 (cs' := [_]) hA rfl rfl T.fl4 T.sz4 rfl (hS.p 1) rfl rfl ?_ | refine goW2 (cs' := [_]) hA rfl rfl T.fl4 T.sz4 rfl (hS.p 2) rfl rfl ?_ | refine goW2 (cs' := [_]) hA rfl rfl T.fl4 T.sz4 rfl (hS.p 3) rfl rfl ?_ | refine goW2 (cs' := [_]) hA rfl rfl T.fl4 T.sz4 rfl (hS.p 4) rfl rfl ?_ | refine goW2 (cs' := [_]) hA rfl rfl T.fl4 T.sz4 rfl (hS.p 5) rfl rfl ?_ | refine goW2 (cs' := [_]) hA rfl rfl T.fl4 T.sz4 rfl (hS.p 6) rfl rfl ?_ | refine goW2 (cs' := [_]) hA rfl rfl T.fl4 T.sz4 rfl (hS.p 7) rfl rfl ?_ | refine goW2 (cs' := [_]) hA rfl rfl T.fl4 T.sz4 rfl (hS.p 8) rfl rfl ?_ | refine goW2 (cs' := [_]) hA rfl rfl T.fl4 T.sz4 rfl (hS.p 9) rfl rfl ?_ | refine goW2 (cs' := [_]) hA rfl rfl T.fl4 T.sz4 rfl (hS.p 10) rfl rfl ?_ | refine goW2 (cs' := [_]) hA rfl rfl T.fl4 T.sz4 rfl (hS.p 11) rfl rfl ?_ | refine goW2 (cs' := [_]) hA rfl rfl T.fl4 T.sz4 rfl (hS.p 12) rfl rfl ?_ | refine goW2 (cs' := [_]) hA rfl rfl T.fl4 T.sz4 rfl (hS.p 13) rfl rfl ?_ | refine goW2 (cs' := [_]) hA rfl rfl T.fl4 T.sz4 rfl (hS.p 14) rfl rfl ?_ | refine goW2 (cs' := [_]) hA rfl rfl T.fl4 T.sz4 rfl (hS.p 15) rfl rfl ?_ | refine goW2 (cs' := [_]) hA rfl rfl T.fl4 T.sz4 rfl (hS.p 16) rfl rfl ?_ | refine goW2 (cs' := [_]) hA rfl rfl T.fl4 T.sz4 rfl (hS.p 17) rfl rfl ?_ | refine goW2 (cs' := [_]) hA rfl rfl T.fl4 T.sz4 rfl (hS.p 18) rfl rfl ?_ | refine goW2 (cs' := [_]) hA rfl rfl T.fl4 T.sz4 rfl (hS.p 19) rfl rfl ?_
                   clear hS; intro w hS
                   refine wpList_nil ?_
                   refine hk36 _ _ ?_
                   clear hk36 k36
                   refine wp_ret ?_
                   refine then_ret ?_; clear hk34 k34
                   refine block_ret ?_
                   refine then_ret ?_; clear hk30 k30
                   refine then_ret ?_
                   refine block_ret ?_
                   refine then_ret ?_; clear hk26 k26
                   refine block_ret ?_
                   refine then_ret ?_; clear hk17 k17
                   refine then_ret ?_
                   refine block_ret ?_
                   refine then_ret ?_; clear hk13 k13
                   exact endMC (Ds := Ds) hA rfl rfl T.fl4 (hS.p 1) (fun w' hS => hS.cell rfl) (fun w' hS => ⟨rfl, hS.nil⟩)
             · clear hA a; intro h78 a hA
               have hk : k = (xs.drop g).length := by rw [List.length_drop]; omega
               rw [List.take_of_length_le (by omega), hk] at hS
               obtain ⟨ys, hys⟩ : ∃ ys, ys = xs.drop g := ⟨_, rfl⟩
               rw [← hys] at hS
               have hyl : ys.length ≤ 64 := by rw [hys, List.length_drop]; omega
               replace hS : Sat W w [pto b11 (.cells #[.slice ph ys.length ch] 54), row 3 1 (.slice ph ys.length ch) ys.length (ys.map (Value.int .i64)), pto b9 (.cells #[.int .i64 (s + (g : Int))] 3), pto l (.cells #[.int .i64 M, .int .i64 (s + ((g : Nat) : Int)), .slice Al ((xs).length - g) cl] 103), row 3 1 (.slice Al ((xs).length - g) cl) ((xs).length - g) (((xs).drop g).map (Value.int .i64)), pto b8 (.cells #[.int .i64 o.k, .bool o.s, .int .i64 o.n, .int .i64 o.x] 34), stars (Ds.map mblock), pto b1 (.cells #[.int .i64 m1, .int .i64 s1, .int .i64 m2, .int .i64 s2, .slice (some A') ops.length c] 28), pto b2 (.cells #[.bool false] 4), pto Bo (.cells #[.slice po ws.length co] 54), row 3 1 (.slice po ws.length co) ws.length (ws.map (Value.int .i64)), pto Ao (.cells #[.int .i64 fr] 3), row 3 1 (.slice pw ws.length cw) ws.length (ws.map (Value.int .i64))] := by rw [hys] at hS ⊢; exact hS
               try (first | contradiction | (exfalso; omega) | (exfalso; simp at h78; done))
               all_goals
                skip
                refine wpList_nil ?_
                refine hk29 _ _ ?_
                clear hk29 k29
                refine wp_cond_false (hA.ev rfl) ?_
                refine wp_exit ?_
                refine then_exit ?_; clear hk28 k28
                refine then_exit ?_
                refine block_hit ?_
                refine hk26 _ _ ?_
                clear hk26 k26
                refine wp_seq_k fun k37 hk37 => ?_
                refine wp_region_lit ?_
                refine go1 hA rfl rfl rfl (r_move (hA.ev rfl)) ?_; clear hA a; intro a hA
                refine go1 hA rfl rfl rfl (r_load (hA.ev rfl) T.fl3 (by first | exact hS.cell rfl | exact (hS.p 1).cell rfl | exact (hS.p 2).cell rfl | exact (hS.p 3).cell rfl | exact (hS.p 4).cell rfl | exact (hS.p 5).cell rfl | exact (hS.p 6).cell rfl | exact (hS.p 7).cell rfl | exact (hS.p 8).cell rfl | exact (hS.p 9).cell rfl | exact (hS.p 10).cell rfl | exact (hS.p 11).cell rfl | exact (hS.p 12).cell rfl | exact (hS.p 13).cell rfl | exact (hS.p 14).cell rfl | exact (hS.p 15).cell rfl | exact (hS.p 16).cell rfl | exact (hS.p 17).cell rfl | exact (hS.p 18).cell rfl | exact (hS.p 19).cell rfl)) ?_; clear hA a; intro a hA
                refine goF hA rfl T.en52 rfl (Walk_calls _ _ _ _ _ _ _ _ _ xs _ ((hS.p 4).p 4) hM hM2 hs hs2 hg hgM (by omega) (by omega) (by omega)) ?_
                clear hA a; clear hS; rintro e w ⟨Bs, As, ps, cs, rfl, hS⟩; rw [wat_first hg, her_first hg] at hS; replace hS : Sat W w [pto Bs (.cells #[.slice ps ys.length cs] 54), row 3 1 (.slice ps ys.length cs) ys.length (ys.map (Value.int .i64)), pto As (.cells #[.int .i64 (s + (g : Int))] 3), pto l (.cells #[.int .i64 M, .int .i64 (s + ((g : Nat) : Int)), .slice Al ((xs).length - g) cl] 103), row 3 1 (.slice Al ((xs).length - g) cl) ((xs).length - g) (((xs).drop g).map (Value.int .i64)), pto b11 (.cells #[.slice ph ys.length ch] 54), row 3 1 (.slice ph ys.length ch) ys.length (ys.map (Value.int .i64)), pto b9 (.cells #[.int .i64 (s + (g : Int))] 3), pto b8 (.cells #[.int .i64 o.k, .bool o.s, .int .i64 o.n, .int .i64 o.x] 34), stars (Ds.map mblock), pto b1 (.cells #[.int .i64 m1, .int .i64 s1, .int .i64 m2, .int .i64 s2, .slice (some A') ops.length c] 28), pto b2 (.cells #[.bool false] 4), pto Bo (.cells #[.slice po ws.length co] 54), row 3 1 (.slice po ws.length co) ws.length (ws.map (Value.int .i64)), pto Ao (.cells #[.int .i64 fr] 3), row 3 1 (.slice pw ws.length cw) ws.length (ws.map (Value.int .i64))] := (by rw [hys] at hS ⊢; exact hS)
                refine ⟨_, rfl, ?_⟩; intro a hA
                refine goN hA rfl T.zv87 hS ?_
                clear hA a hS; intro b15 w hS a hA
                first | refine goW2 (cs' := [_]) hA rfl rfl T.fl87 T.sz87 rfl hS rfl rfl ?_ | refine goW2 (cs' := [_]) hA rfl rfl T.fl87 T.sz87 rfl (hS.p 1) rfl rfl ?_ | refine goW2 (cs' := [_]) hA rfl rfl T.fl87 T.sz87 rfl (hS.p 2) rfl rfl ?_ | refine goW2 (cs' := [_]) hA rfl rfl T.fl87 T.sz87 rfl (hS.p 3) rfl rfl ?_ | refine goW2 (cs' := [_]) hA rfl rfl T.fl87 T.sz87 rfl (hS.p 4) rfl rfl ?_ | refine goW2 (cs' := [_]) hA rfl rfl T.fl87 T.sz87 rfl (hS.p 5) rfl rfl ?_ | refine goW2 (cs' := [_]) hA rfl rfl T.fl87 T.sz87 rfl (hS.p 6) rfl rfl ?_ | refine goW2 (cs' := [_]) hA rfl rfl T.fl87 T.sz87 rfl (hS.p 7) rfl rfl ?_ | refine goW2 (cs' := [_]) hA rfl rfl T.fl87 T.sz87 rfl (hS.p 8) rfl rfl ?_ | refine goW2 (cs' := [_]) hA rfl rfl T.fl87 T.sz87 rfl (hS.p 9) rfl rfl ?_ | refine goW2 (cs' := [_]) hA rfl rfl T.fl87 T.sz87 rfl (hS.p 10) rfl rfl ?_ | refine goW2 (cs' := [_]) hA rfl rfl T.fl87 T.sz87 rfl (hS.p 11) rfl rfl ?_ | refine goW2 (cs' := [_]) hA rfl rfl T.fl87 T.sz87 rfl (hS.p 12) rfl rfl ?_ | refine goW2 (cs' := [_]) hA rfl rfl T.fl87 T.sz87 rfl (hS.p 13) rfl rfl ?_ | refine goW2 (cs' := [_]) hA rfl rfl T.fl87 T.sz87 rfl (hS.p 14) rfl rfl ?_ | refine goW2 (cs' := [_]) hA rfl rfl T.fl87 T.sz87 rfl (hS.p 15) rfl rfl ?_ | refine goW2 (cs' := [_]) hA rfl rfl T.fl87 T.sz87 rfl (hS.p 16) rfl rfl ?_ | refine goW2 (cs' := [_]) hA rfl rfl T.fl87 T.sz87 rfl (hS.p 17) rfl rfl ?_ | refine goW2 (cs' := [_]) hA rfl rfl T.fl87 T.sz87 rfl (hS.p 18) rfl rfl ?_ | refine goW2 (cs' := [_]) hA rfl rfl T.fl87 T.sz87 rfl (hS.p 19) rfl rfl ?_
                clear hS; intro w hS
                refine wpList_nil ?_
                refine hk37 _ _ ?_
                clear hk37 k37
                refine wp_seq_k fun k38 hk38 => ?_
                refine wp_seq_k fun k39 hk39 => ?_
                refine wp_region_lit ?_
                refine go1 hA rfl rfl rfl (r_load (hA.ev rfl) T.fl87 (by first | exact hS.cell rfl | exact (hS.p 1).cell rfl | exact (hS.p 2).cell rfl | exact (hS.p 3).cell rfl | exact (hS.p 4).cell rfl | exact (hS.p 5).cell rfl | exact (hS.p 6).cell rfl | exact (hS.p 7).cell rfl | exact (hS.p 8).cell rfl | exact (hS.p 9).cell rfl | exact (hS.p 10).cell rfl | exact (hS.p 11).cell rfl | exact (hS.p 12).cell rfl | exact (hS.p 13).cell rfl | exact (hS.p 14).cell rfl | exact (hS.p 15).cell rfl | exact (hS.p 16).cell rfl | exact (hS.p 17).cell rfl | exact (hS.p 18).cell rfl | exact (hS.p 19).cell rfl)) ?_; clear hA a; intro a hA
                refine go1 hA rfl rfl rfl (r_eqF (hA.ev rfl) (hA.ev rfl) (isFunc_get T.uf87).choose_spec.choose_spec.choose_spec) ?_; clear hA a; intro a hA
                refine wpList_nil ?_
                refine hk39 _ _ ?_
                clear hk39 k39
                refine wp_cond_false (hA.ev rfl) ?_
                refine wp_skip ?_
                refine hk38 _ _ ?_
                clear hk38 k38
                refine wp_seq_k fun k40 hk40 => ?_
                refine wp_region_lit ?_
                refine go1 hA rfl rfl rfl (r_move (hA.ev rfl)) ?_; clear hA a; intro a hA
                refine go1 hA rfl rfl rfl (r_load (hA.ev rfl) T.fl3 (by first | exact hS.cell rfl | exact (hS.p 1).cell rfl | exact (hS.p 2).cell rfl | exact (hS.p 3).cell rfl | exact (hS.p 4).cell rfl | exact (hS.p 5).cell rfl | exact (hS.p 6).cell rfl | exact (hS.p 7).cell rfl | exact (hS.p 8).cell rfl | exact (hS.p 9).cell rfl | exact (hS.p 10).cell rfl | exact (hS.p 11).cell rfl | exact (hS.p 12).cell rfl | exact (hS.p 13).cell rfl | exact (hS.p 14).cell rfl | exact (hS.p 15).cell rfl | exact (hS.p 16).cell rfl | exact (hS.p 17).cell rfl | exact (hS.p 18).cell rfl | exact (hS.p 19).cell rfl)) ?_; clear hA a; intro a hA
                refine goF hA rfl T.en44 rfl (IFrom _ _ _ _ _ _ xs _ _ _ _ ((hS.p 5).p 5) hM hM2 hs hs2 hg hgM (by omega) (by omega) (by omega)) ?_
                clear hA a; clear hS; rintro e w ⟨Af, cf, rfl, hS⟩; rw [her_first hg] at hS; replace hS : Sat W w [row 3 1 (.slice Af ys.length cf) ys.length (ys.map (Value.int .i64)), pto l (.cells #[.int .i64 M, .int .i64 (s + ((g : Nat) : Int)), .slice Al ((xs).length - g) cl] 103), row 3 1 (.slice Al ((xs).length - g) cl) ((xs).length - g) (((xs).drop g).map (Value.int .i64)), pto b15 (.cells #[.func (.func 71) #[] #[.pointer (some ⟨Bs, 0, none⟩), .pointer (some ⟨As, 0, none⟩)]] 87), pto Bs (.cells #[.slice ps ys.length cs] 54), row 3 1 (.slice ps ys.length cs) ys.length (ys.map (Value.int .i64)), pto As (.cells #[.int .i64 (s + (g : Int))] 3), pto b11 (.cells #[.slice ph ys.length ch] 54), row 3 1 (.slice ph ys.length ch) ys.length (ys.map (Value.int .i64)), pto b9 (.cells #[.int .i64 (s + (g : Int))] 3), pto b8 (.cells #[.int .i64 o.k, .bool o.s, .int .i64 o.n, .int .i64 o.x] 34), stars (Ds.map mblock), pto b1 (.cells #[.int .i64 m1, .int .i64 s1, .int .i64 m2, .int .i64 s2, .slice (some A') ops.length c] 28), pto b2 (.cells #[.bool false] 4), pto Bo (.cells #[.slice po ws.length co] 54), row 3 1 (.slice po ws.length co) ws.length (ws.map (Value.int .i64)), pto Ao (.cells #[.int .i64 fr] 3), row 3 1 (.slice pw ws.length cw) ws.length (ws.map (Value.int .i64))] := (by rw [hys] at hS ⊢; exact hS); rw [her_first hg, ← hys, show okF s (s + (g : Int)) g xs = true from decide_eq_true (by omega)]
                refine ⟨_, rfl, ?_⟩; intro a hA
                refine go1 hA rfl rfl rfl (r_move (hA.ev rfl)) ?_; clear hA a; intro a hA
                refine go1 hA rfl rfl rfl (r_ext (hA.ev rfl) rfl) ?_; clear hA a; intro a hA
                refine go1b hA rfl rfl rfl (r_ext (hA.ev rfl) rfl) ?_ ?_
                · clear hA a; intro h103 a hA
                  try simp only [decide_eq_decide, decide_eq_true_eq, decide_eq_false_iff_not, Bool.not_eq_true', Bool.not_eq_false', bne_iff_ne, ne_eq, beq_iff_eq, Bool.not_eq_true, Bool.not_eq_false] at h103
                  try (first | contradiction | (exfalso; omega) | (exfalso; simp at h103; done))
                  all_goals
                   skip
                   refine go1 hA rfl rfl rfl (r_assign (hA.ev rfl)) ?_; clear hA a; intro a hA
                   refine go1 hA rfl rfl rfl (r_assign (hA.ev rfl)) ?_; clear hA a; intro a hA
                   refine wpList_nil ?_
                   refine hk40 _ _ ?_
                   clear hk40 k40
                   refine wp_seq_k fun k41 hk41 => ?_
                   refine wp_seq_k fun k42 hk42 => ?_
                   refine wp_region_lit ?_
                   refine go1 hA rfl rfl rfl (r_move (hA.ev rfl)) ?_; clear hA a; intro a hA
                   refine go1 hA rfl rfl rfl (r_not (hA.ev rfl)) ?_; clear hA a; intro a hA
                   refine go1 hA rfl rfl rfl (r_move (hA.ev rfl)) ?_; clear hA a; intro a hA
                   refine go1y hA (wanted_yes hA rfl rfl rfl) rfl rfl (r_move (hA.ev rfl)) ?_; clear hA a; intro a hA
                   refine go1y hA (wanted_yes hA rfl rfl rfl) rfl rfl (r_load (hA.ev rfl) T.fl54 (by first | exact hS.cell rfl | exact (hS.p 1).cell rfl | exact (hS.p 2).cell rfl | exact (hS.p 3).cell rfl | exact (hS.p 4).cell rfl | exact (hS.p 5).cell rfl | exact (hS.p 6).cell rfl | exact (hS.p 7).cell rfl | exact (hS.p 8).cell rfl | exact (hS.p 9).cell rfl | exact (hS.p 10).cell rfl | exact (hS.p 11).cell rfl | exact (hS.p 12).cell rfl | exact (hS.p 13).cell rfl | exact (hS.p 14).cell rfl | exact (hS.p 15).cell rfl | exact (hS.p 16).cell rfl | exact (hS.p 17).cell rfl | exact (hS.p 18).cell rfl | exact (hS.p 19).cell rfl)) ?_; clear hA a; intro a hA
                   refine goFy hA (wanted_yes hA rfl rfl rfl) rfl T.en45 rfl (same_t hS.rd (hS.p 8).rd rfl (by omega)) ?_
                   clear hA a; rintro e w ⟨rfl, hT⟩; replace hS : Sat _ _ _ := hS.rebase hT; clear hT
                   refine ⟨_, rfl, ?_⟩; intro a hA
                   refine go1by hA (wanted_yes hA rfl rfl rfl) rfl rfl (r_not (hA.ev rfl)) ?_ ?_
                   · clear hA a; intro h110 a hA
                     try simp only [decide_eq_decide, decide_eq_true_eq, decide_eq_false_iff_not, Bool.not_eq_true', Bool.not_eq_false', bne_iff_ne, ne_eq, beq_iff_eq, Bool.not_eq_true, Bool.not_eq_false] at h110
                     try (first | contradiction | (exfalso; omega) | (exfalso; simp at h110; done))
                     all_goals
                      skip
                      refine go1 hA rfl rfl rfl (r_pick_f (hA.ev rfl) (hA.ev rfl)) ?_; clear hA a; intro a hA
                      refine wpList_nil ?_
                      refine hk42 _ _ ?_
                      clear hk42 k42
                      refine wp_cond_true (hA.ev rfl) ?_
                      refine wp_seq_k fun k43 hk43 => ?_
                      refine wp_region_lit ?_
                      first | refine goW2 (cs' := [_]) hA rfl rfl T.fl4 T.sz4 rfl hS rfl rfl ?_ | refine goW2 (cs' := [_]) hA rfl rfl T.fl4 T.sz4 rfl (hS.p 1) rfl rfl ?_ | refine goW2 (cs' := [_]) hA rfl rfl T.fl4 T.sz4 rfl (hS.p 2) rfl rfl ?_ | refine goW2 (cs' := [_]) hA rfl rfl T.fl4 T.sz4 rfl (hS.p 3) rfl rfl ?_ | refine goW2 (cs' := [_]) hA rfl rfl T.fl4 T.sz4 rfl (hS.p 4) rfl rfl ?_ | refine goW2 (cs' := [_]) hA rfl rfl T.fl4 T.sz4 rfl (hS.p 5) rfl rfl ?_ | refine goW2 (cs' := [_]) hA rfl rfl T.fl4 T.sz4 rfl (hS.p 6) rfl rfl ?_ | refine goW2 (cs' := [_]) hA rfl rfl T.fl4 T.sz4 rfl (hS.p 7) rfl rfl ?_ | refine goW2 (cs' := [_]) hA rfl rfl T.fl4 T.sz4 rfl (hS.p 8) rfl rfl ?_ | refine goW2 (cs' := [_]) hA rfl rfl T.fl4 T.sz4 rfl (hS.p 9) rfl rfl ?_ | refine goW2 (cs' := [_]) hA rfl rfl T.fl4 T.sz4 rfl (hS.p 10) rfl rfl ?_ | refine goW2 (cs' := [_]) hA rfl rfl T.fl4 T.sz4 rfl (hS.p 11) rfl rfl ?_ | refine goW2 (cs' := [_]) hA rfl rfl T.fl4 T.sz4 rfl (hS.p 12) rfl rfl ?_ | refine goW2 (cs' := [_]) hA rfl rfl T.fl4 T.sz4 rfl (hS.p 13) rfl rfl ?_ | refine goW2 (cs' := [_]) hA rfl rfl T.fl4 T.sz4 rfl (hS.p 14) rfl rfl ?_ | refine goW2 (cs' := [_]) hA rfl rfl T.fl4 T.sz4 rfl (hS.p 15) rfl rfl ?_ | refine goW2 (cs' := [_]) hA rfl rfl T.fl4 T.sz4 rfl (hS.p 16) rfl rfl ?_ | refine goW2 (cs' := [_]) hA rfl rfl T.fl4 T.sz4 rfl (hS.p 17) rfl rfl ?_ | refine goW2 (cs' := [_]) hA rfl rfl T.fl4 T.sz4 rfl (hS.p 18) rfl rfl ?_ | refine goW2 (cs' := [_]) hA rfl rfl T.fl4 T.sz4 rfl (hS.p 19) rfl rfl ?_
                      clear hS; intro w hS
                      refine wpList_nil ?_
                      refine hk43 _ _ ?_
                      clear hk43 k43
                      refine wp_ret ?_
                      refine then_ret ?_; clear hk41 k41
                      refine block_ret ?_
                      refine then_ret ?_; clear hk17 k17
                      refine then_ret ?_
                      refine block_ret ?_
                      refine then_ret ?_; clear hk13 k13
                      exact endMC (Ds := Ds) hA rfl rfl T.fl4 (hS.p 1) (fun w' hS => hS.cell rfl) (fun w' hS => ⟨rfl, hS.nil⟩)
                   · clear hA a; intro h110 a hA
                     try simp only [decide_eq_decide, decide_eq_true_eq, decide_eq_false_iff_not, Bool.not_eq_true', Bool.not_eq_false', bne_iff_ne, ne_eq, beq_iff_eq, Bool.not_eq_true, Bool.not_eq_false] at h110
                     try (first | contradiction | (exfalso; omega) | (exfalso; simp at h110; done))
                     all_goals
                      skip
                      refine go1 hA rfl rfl rfl (r_pick_f (hA.ev rfl) (hA.ev rfl)) ?_; clear hA a; intro a hA
                      refine wpList_nil ?_
                      refine hk42 _ _ ?_
                      clear hk42 k42
                      refine wp_cond_false (hA.ev rfl) ?_
                      refine wp_skip ?_
                      refine hk41 _ _ ?_
                      clear hk41 k41
                      refine wp_seq_cut (fun a w => ∃ (g2 : Nat) (xs2 : List Int) (Al2 : Option Addr) (cl2 : Nat), Ag a 234 [(1, .pointer (some ⟨b1, 0, none⟩)), (2, .pointer (some ⟨b2, 0, none⟩)), (3, .pointer (some ⟨l, 0, none⟩)), (4, .func (.func 71) #[] #[.pointer (some ⟨Bo, 0, none⟩), .pointer (some ⟨Ao, 0, none⟩)]), (5, .int .i64 fr), (6, .slice pw ws.length cw), (7, .int .i64 i), (9, .pointer (some ⟨b9, 0, none⟩)), (11, .pointer (some ⟨b11, 0, none⟩)), (15, .pointer (some ⟨b15, 0, none⟩)), (16, .slice Af ys.length cf)] (Ds.map K.mark) ∧ Sat W w [pto l (.cells #[.int .i64 M, .int .i64 (s + ((g2 : Nat) : Int)), .slice Al2 ((xs2).length - g2) cl2] 103), row 3 1 (.slice Al2 ((xs2).length - g2) cl2) ((xs2).length - g2) (((xs2).drop g2).map (Value.int .i64)), row 3 1 (.slice Af ys.length cf) ys.length (ys.map (Value.int .i64)), pto b15 (.cells #[.func (.func 71) #[] #[.pointer (some ⟨Bs, 0, none⟩), .pointer (some ⟨As, 0, none⟩)]] 87), pto Bs (.cells #[.slice ps ys.length cs] 54), row 3 1 (.slice ps ys.length cs) ys.length (ys.map (Value.int .i64)), pto As (.cells #[.int .i64 (s + (g : Int))] 3), pto b11 (.cells #[.slice ph ys.length ch] 54), row 3 1 (.slice ph ys.length ch) ys.length (ys.map (Value.int .i64)), pto b9 (.cells #[.int .i64 (s + (g : Int))] 3), pto b8 (.cells #[.int .i64 o.k, .bool o.s, .int .i64 o.n, .int .i64 o.x] 34), stars (Ds.map mblock), pto b1 (.cells #[.int .i64 m1, .int .i64 s1, .int .i64 m2, .int .i64 s2, .slice (some A') ops.length c] 28), pto b2 (.cells #[.bool false] 4), pto Bo (.cells #[.slice po ws.length co] 54), row 3 1 (.slice po ws.length co) ws.length (ws.map (Value.int .i64)), pto Ao (.cells #[.int .i64 fr] 3), row 3 1 (.slice pw ws.length cw) ws.length (ws.map (Value.int .i64))] ∧ ((xs2.length : Int) ≤ 3 * i + 3) ∧ (g2 ≤ xs2.length) ∧ (((xs2.length - g2 : Nat) : Int) ≤ M)) ?_ ?_
                      · skip
                        refine wp_seq_k fun k44 hk44 => ?_
                        refine wp_region_lit ?_
                        refine go1 hA rfl rfl rfl (r_field (hA.ev rfl) T.fo34_1) ?_; clear hA a; intro a hA
                        refine go1b hA rfl rfl rfl (r_load (hA.ev rfl) T.fl4 (by first | exact hS.cell rfl | exact (hS.p 1).cell rfl | exact (hS.p 2).cell rfl | exact (hS.p 3).cell rfl | exact (hS.p 4).cell rfl | exact (hS.p 5).cell rfl | exact (hS.p 6).cell rfl | exact (hS.p 7).cell rfl | exact (hS.p 8).cell rfl | exact (hS.p 9).cell rfl | exact (hS.p 10).cell rfl | exact (hS.p 11).cell rfl | exact (hS.p 12).cell rfl | exact (hS.p 13).cell rfl | exact (hS.p 14).cell rfl | exact (hS.p 15).cell rfl | exact (hS.p 16).cell rfl | exact (hS.p 17).cell rfl | exact (hS.p 18).cell rfl | exact (hS.p 19).cell rfl)) ?_ ?_
                        · clear hA a; intro h113 a hA
                          try simp only [decide_eq_decide, decide_eq_true_eq, decide_eq_false_iff_not, Bool.not_eq_true', Bool.not_eq_false', bne_iff_ne, ne_eq, beq_iff_eq, Bool.not_eq_true, Bool.not_eq_false] at h113
                          try (first | contradiction | (exfalso; omega) | (exfalso; simp at h113; done))
                          all_goals
                           skip
                           refine wpList_nil ?_
                           refine hk44 _ _ ?_
                           clear hk44 k44
                           refine wp_cond_true (hA.ev rfl) ?_
                           refine wp_region_lit ?_
                           refine go1 hA rfl rfl rfl (r_move (hA.ev rfl)) ?_; clear hA a; intro a hA
                           refine go1 hA rfl rfl rfl (r_field (hA.ev rfl) T.fo34_2) ?_; clear hA a; intro a hA
                           refine go1 hA rfl rfl rfl (r_load (hA.ev rfl) T.fl3 (by first | exact hS.cell rfl | exact (hS.p 1).cell rfl | exact (hS.p 2).cell rfl | exact (hS.p 3).cell rfl | exact (hS.p 4).cell rfl | exact (hS.p 5).cell rfl | exact (hS.p 6).cell rfl | exact (hS.p 7).cell rfl | exact (hS.p 8).cell rfl | exact (hS.p 9).cell rfl | exact (hS.p 10).cell rfl | exact (hS.p 11).cell rfl | exact (hS.p 12).cell rfl | exact (hS.p 13).cell rfl | exact (hS.p 14).cell rfl | exact (hS.p 15).cell rfl | exact (hS.p 16).cell rfl | exact (hS.p 17).cell rfl | exact (hS.p 18).cell rfl | exact (hS.p 19).cell rfl)) ?_; clear hA a; intro a hA
                           refine goF hA rfl T.en20 rfl (ITrim _ _ _ _ _ _ xs _ _ _ _ ((hS.p 2).p 2) hM hM2 hs hs2 hg hgM (by omega) hw0 hw1) ?_
                           clear hA a; clear hS; rintro e w ⟨rfl, Al2, cl2, hS⟩
                           refine ⟨_, rfl, ?_⟩; intro a hA
                           refine wpList_nil ?_
                           replace hA := hA.keep (.cons (i := 1) rfl (.cons (i := 2) rfl (.cons (i := 3) rfl (.cons (i := 4) rfl (.cons (i := 5) rfl (.cons (i := 6) rfl (.cons (i := 7) rfl (.cons (i := 9) rfl (.cons (i := 11) rfl (.cons (i := 15) rfl (.cons (i := 16) rfl .nil)))))))))))
                           first
                             | exact ⟨_, _, _, _, hA, hS, (by first | omega | (simp only [len1, gN]; omega) | (simp only [kT]; omega)), (by first | omega | (simp only [len1, gN]; omega) | (simp only [kT]; omega)), (by first | omega | (simp only [len1, gN]; omega) | (simp only [kT]; omega))⟩
                        · clear hA a; intro h113 a hA
                          try simp only [decide_eq_decide, decide_eq_true_eq, decide_eq_false_iff_not, Bool.not_eq_true', Bool.not_eq_false', bne_iff_ne, ne_eq, beq_iff_eq, Bool.not_eq_true, Bool.not_eq_false] at h113
                          try (first | contradiction | (exfalso; omega) | (exfalso; simp at h113; done))
                          all_goals
                           skip
                           refine wpList_nil ?_
                           refine hk44 _ _ ?_
                           clear hk44 k44
                           refine wp_cond_false (hA.ev rfl) ?_
                           refine wp_seq_k fun k45 hk45 => ?_
                           refine wp_region_lit ?_
                           refine go1 hA rfl rfl rfl (r_move (hA.ev rfl)) ?_; clear hA a; intro a hA
                           refine go1 hA rfl rfl rfl (r_field (hA.ev rfl) T.fo34_3) ?_; clear hA a; intro a hA
                           refine go1 hA rfl rfl rfl (r_load (hA.ev rfl) T.fl3 (by first | exact hS.cell rfl | exact (hS.p 1).cell rfl | exact (hS.p 2).cell rfl | exact (hS.p 3).cell rfl | exact (hS.p 4).cell rfl | exact (hS.p 5).cell rfl | exact (hS.p 6).cell rfl | exact (hS.p 7).cell rfl | exact (hS.p 8).cell rfl | exact (hS.p 9).cell rfl | exact (hS.p 10).cell rfl | exact (hS.p 11).cell rfl | exact (hS.p 12).cell rfl | exact (hS.p 13).cell rfl | exact (hS.p 14).cell rfl | exact (hS.p 15).cell rfl | exact (hS.p 16).cell rfl | exact (hS.p 17).cell rfl | exact (hS.p 18).cell rfl | exact (hS.p 19).cell rfl)) ?_; clear hA a; intro a hA
                           refine goF hA rfl T.en19 rfl (IPush _ _ _ _ _ _ xs _ _ _ _ ((hS.p 2).p 2) hM hM2 hs hs2 hg hgM (by omega)) ?_
                           clear hA a; clear hS; rintro e w ⟨rfl, Al1, cl1, hS⟩
                           refine ⟨_, rfl, ?_⟩; intro a hA
                           refine wpList_nil ?_
                           refine hk45 _ _ ?_
                           clear hk45 k45
                           replace hA := hA.keep (.cons (i := 1) rfl (.cons (i := 2) rfl (.cons (i := 3) rfl (.cons (i := 4) rfl (.cons (i := 5) rfl (.cons (i := 6) rfl (.cons (i := 7) rfl (.cons (i := 8) rfl (.cons (i := 9) rfl (.cons (i := 10) rfl (.cons (i := 11) rfl (.cons (i := 12) rfl (.cons (i := 15) rfl (.cons (i := 16) rfl (.cons (i := 17) rfl (.cons (i := 76) rfl (.cons (i := 77) rfl (.cons (i := 78) rfl (.cons (i := 93) rfl (.cons (i := 94) rfl (.cons (i := 95) rfl (.cons (i := 96) rfl (.cons (i := 97) rfl (.cons (i := 98) rfl (.cons (i := 99) rfl (.cons (i := 100) rfl (.cons (i := 101) rfl (.cons (i := 102) rfl (.cons (i := 103) rfl (.cons (i := 104) rfl (.cons (i := 105) rfl (.cons (i := 106) rfl (.cons (i := 107) rfl (.cons (i := 108) rfl (.cons (i := 109) rfl (.cons (i := 110) rfl (.cons (i := 111) rfl (.cons (i := 112) rfl (.cons (i := 113) rfl (.cons (i := 118) rfl (.cons (i := 119) rfl (.cons (i := 120) rfl .nil))))))))))))))))))))))))))))))))))))))))))
                           refine wp_region_lit ?_
                           refine go1 hA rfl rfl rfl (r_move (hA.ev rfl)) ?_; clear hA a; intro a hA
                           refine go1 hA rfl rfl rfl (r_field (hA.ev rfl) T.fo34_3) ?_; clear hA a; intro a hA
                           refine go1 hA rfl rfl rfl (r_load (hA.ev rfl) T.fl3 (by first | exact hS.cell rfl | exact (hS.p 1).cell rfl | exact (hS.p 2).cell rfl | exact (hS.p 3).cell rfl | exact (hS.p 4).cell rfl | exact (hS.p 5).cell rfl | exact (hS.p 6).cell rfl | exact (hS.p 7).cell rfl | exact (hS.p 8).cell rfl | exact (hS.p 9).cell rfl | exact (hS.p 10).cell rfl | exact (hS.p 11).cell rfl | exact (hS.p 12).cell rfl | exact (hS.p 13).cell rfl | exact (hS.p 14).cell rfl | exact (hS.p 15).cell rfl | exact (hS.p 16).cell rfl | exact (hS.p 17).cell rfl | exact (hS.p 18).cell rfl | exact (hS.p 19).cell rfl)) ?_; clear hA a; intro a hA
                           refine go1 hA rfl rfl rfl (r_addw (hA.ev rfl) (hA.ev rfl)) ?_; clear hA a; intro a hA
                           refine goF hA rfl T.en19 rfl (IPush _ _ _ _ _ _ _ _ _ _ _ hS hM hM2 hs hs2 (by simp only [len1, gN]; omega) (by simp only [len1, gN]; omega) (by simp only [len1]; omega)) ?_
                           clear hA a; clear hS; rintro e w ⟨rfl, Al2, cl2, hS⟩
                           refine ⟨_, rfl, ?_⟩; intro a hA
                           refine wpList_nil ?_
                           replace hA := hA.keep (.cons (i := 1) rfl (.cons (i := 2) rfl (.cons (i := 3) rfl (.cons (i := 4) rfl (.cons (i := 5) rfl (.cons (i := 6) rfl (.cons (i := 7) rfl (.cons (i := 9) rfl (.cons (i := 11) rfl (.cons (i := 15) rfl (.cons (i := 16) rfl .nil)))))))))))
                           first
                             | exact ⟨_, _, _, _, hA, hS, (by first | omega | (simp only [len1, gN]; omega) | (simp only [kT]; omega)), (by first | omega | (simp only [len1, gN]; omega) | (simp only [kT]; omega)), (by first | omega | (simp only [len1, gN]; omega) | (simp only [kT]; omega))⟩
                      · skip
                        intro a w hI
                        clear hS hA; obtain ⟨g2, xs2, Al2, cl2, hA, hS, hxi2, hg2, hgM2⟩ := hI
                        refine wp_seq_k fun k46 hk46 => ?_
                        refine wp_region_lit ?_
                        refine goN hA rfl T.zv3 hS ?_
                        clear hA a hS; intro b18 w hS a hA
                        first | refine goW2 (cs' := [_]) hA rfl rfl T.fl3 T.sz3 rfl hS rfl rfl ?_ | refine goW2 (cs' := [_]) hA rfl rfl T.fl3 T.sz3 rfl (hS.p 1) rfl rfl ?_ | refine goW2 (cs' := [_]) hA rfl rfl T.fl3 T.sz3 rfl (hS.p 2) rfl rfl ?_ | refine goW2 (cs' := [_]) hA rfl rfl T.fl3 T.sz3 rfl (hS.p 3) rfl rfl ?_ | refine goW2 (cs' := [_]) hA rfl rfl T.fl3 T.sz3 rfl (hS.p 4) rfl rfl ?_ | refine goW2 (cs' := [_]) hA rfl rfl T.fl3 T.sz3 rfl (hS.p 5) rfl rfl ?_ | refine goW2 (cs' := [_]) hA rfl rfl T.fl3 T.sz3 rfl (hS.p 6) rfl rfl ?_ | refine goW2 (cs' := [_]) hA rfl rfl T.fl3 T.sz3 rfl (hS.p 7) rfl rfl ?_ | refine goW2 (cs' := [_]) hA rfl rfl T.fl3 T.sz3 rfl (hS.p 8) rfl rfl ?_ | refine goW2 (cs' := [_]) hA rfl rfl T.fl3 T.sz3 rfl (hS.p 9) rfl rfl ?_ | refine goW2 (cs' := [_]) hA rfl rfl T.fl3 T.sz3 rfl (hS.p 10) rfl rfl ?_ | refine goW2 (cs' := [_]) hA rfl rfl T.fl3 T.sz3 rfl (hS.p 11) rfl rfl ?_ | refine goW2 (cs' := [_]) hA rfl rfl T.fl3 T.sz3 rfl (hS.p 12) rfl rfl ?_ | refine goW2 (cs' := [_]) hA rfl rfl T.fl3 T.sz3 rfl (hS.p 13) rfl rfl ?_ | refine goW2 (cs' := [_]) hA rfl rfl T.fl3 T.sz3 rfl (hS.p 14) rfl rfl ?_ | refine goW2 (cs' := [_]) hA rfl rfl T.fl3 T.sz3 rfl (hS.p 15) rfl rfl ?_ | refine goW2 (cs' := [_]) hA rfl rfl T.fl3 T.sz3 rfl (hS.p 16) rfl rfl ?_ | refine goW2 (cs' := [_]) hA rfl rfl T.fl3 T.sz3 rfl (hS.p 17) rfl rfl ?_ | refine goW2 (cs' := [_]) hA rfl rfl T.fl3 T.sz3 rfl (hS.p 18) rfl rfl ?_ | refine goW2 (cs' := [_]) hA rfl rfl T.fl3 T.sz3 rfl (hS.p 19) rfl rfl ?_
                        clear hS; intro w hS
                        refine wpList_nil ?_
                        refine hk46 _ _ ?_
                        clear hk46 k46
                        refine wp_seq_k fun k47 hk47 => ?_
                        refine wp_seq_k fun k48 hk48 => ?_
                        refine wp_region_lit ?_
                        refine go1 hA rfl rfl rfl (r_load (hA.ev rfl) T.fl87 (by first | exact hS.cell rfl | exact (hS.p 1).cell rfl | exact (hS.p 2).cell rfl | exact (hS.p 3).cell rfl | exact (hS.p 4).cell rfl | exact (hS.p 5).cell rfl | exact (hS.p 6).cell rfl | exact (hS.p 7).cell rfl | exact (hS.p 8).cell rfl | exact (hS.p 9).cell rfl | exact (hS.p 10).cell rfl | exact (hS.p 11).cell rfl | exact (hS.p 12).cell rfl | exact (hS.p 13).cell rfl | exact (hS.p 14).cell rfl | exact (hS.p 15).cell rfl | exact (hS.p 16).cell rfl | exact (hS.p 17).cell rfl | exact (hS.p 18).cell rfl | exact (hS.p 19).cell rfl)) ?_; clear hA a; intro a hA
                        refine wpList_nil ?_
                        refine hk48 _ _ ?_
                        clear hk48 k48
                        refine wp_block ?_
                        refine wp_rangeR (xs := wks (s + (g : Int)) ys) (wlX Bs As b9 b11 b15 b18 (s + (g : Int)) ps ph cs ch ys) (fun _ _ => False) (hA.ev rfl) (fun _ _ => run_callFunc (by kernel_rfl)) (Walk1_iter (p := ps) (c := cs) (by omega) (by omega) (by omega)) ?_ ?_ ((show Sat W w (wlX Bs As b9 b11 b15 b18 (s + (g : Int)) ps ph cs ch ys 0 :: _) from tostars (M := [_, _, _, _, _, _, _, _]) ((((((((hS.p 4).p 9).p 9).p 10).p 10).p 10).p 10)))) ?_ ?_ ?_
                        · intro x hx; obtain ⟨k, hk⟩ := List.mem_iff_getElem?.1 hx; obtain ⟨y, _, rfl⟩ := wks_of hk; rfl
                        · exact fun k w' M h => wlX_cap h
                        · skip
                          intro r k x L' w hx hS
                          obtain ⟨y, hyx, rfl⟩ := wks_of hx; have hkl := (List.getElem?_eq_some_iff.1 hyx).1; replace hS := unstars hS; obtain ⟨ph_p, rfl⟩ : ∃ q, ph = some q := (hS.p 5).rd.hasAddr (by omega)
                          have hA := ag_round2 hA (p := 128) (q := 129) rfl rfl (.int .i64 ((s + (g : Int)) + (k : Int))) (.int .i64 y)
                          revert hA
                          generalize ({ tmps := _, defers := [] } : Act) = a
                          intro hA
                          refine wpIn_seq_k fun k49 hk49 => ?_
                          refine region_in (open_round _) (fun ⟨_, _, hq⟩ => False.elim hq) rfl ?_
                          refine go1 hA rfl rfl rfl (r_assign (hA.ev rfl)) ?_; clear hA a; intro a hA
                          refine wpList_nil ?_
                          refine hk49 _ _ ?_
                          clear hk49 k49
                          refine region_in (open_round _) (fun ⟨_, _, hq⟩ => False.elim hq) rfl ?_
                          refine go1 hA rfl rfl rfl (r_assign (hA.ev rfl)) ?_; clear hA a; intro a hA
                          refine wpList_nil ?_
                          refine ⟨stars [_, _, _, _, _, _, _, _], tostars (M := [_, _, _, _, _, _, _, _]) hS, fun lr L2 w hS => ?_⟩
                          replace hS := unstars hS
                          refine wpIn_block ?_
                          refine wpIn_seq_k fun k50 hk50 => ?_
                          refine wpIn_seq_k fun k51 hk51 => ?_
                          refine region_in (open_round _) (fun ⟨_, _, hq⟩ => False.elim hq) rfl ?_
                          refine go1 hA rfl rfl rfl (r_load (hA.ev rfl) T.fl3 (by first | exact hS.cell rfl | exact (hS.p 1).cell rfl | exact (hS.p 2).cell rfl | exact (hS.p 3).cell rfl | exact (hS.p 4).cell rfl | exact (hS.p 5).cell rfl | exact (hS.p 6).cell rfl | exact (hS.p 7).cell rfl | exact (hS.p 8).cell rfl | exact (hS.p 9).cell rfl | exact (hS.p 10).cell rfl | exact (hS.p 11).cell rfl | exact (hS.p 12).cell rfl | exact (hS.p 13).cell rfl | exact (hS.p 14).cell rfl | exact (hS.p 15).cell rfl | exact (hS.p 16).cell rfl | exact (hS.p 17).cell rfl | exact (hS.p 18).cell rfl | exact (hS.p 19).cell rfl)) ?_; clear hA a; intro a hA
                          refine go1 hA rfl rfl rfl (r_load (hA.ev rfl) T.fl54 (by first | exact hS.cell rfl | exact (hS.p 1).cell rfl | exact (hS.p 2).cell rfl | exact (hS.p 3).cell rfl | exact (hS.p 4).cell rfl | exact (hS.p 5).cell rfl | exact (hS.p 6).cell rfl | exact (hS.p 7).cell rfl | exact (hS.p 8).cell rfl | exact (hS.p 9).cell rfl | exact (hS.p 10).cell rfl | exact (hS.p 11).cell rfl | exact (hS.p 12).cell rfl | exact (hS.p 13).cell rfl | exact (hS.p 14).cell rfl | exact (hS.p 15).cell rfl | exact (hS.p 16).cell rfl | exact (hS.p 17).cell rfl | exact (hS.p 18).cell rfl | exact (hS.p 19).cell rfl)) ?_; clear hA a; intro a hA
                          refine go1 hA rfl rfl rfl (r_lens (hA.ev rfl) T.un54) ?_; clear hA a; intro a hA
                          refine go1 hA rfl rfl rfl (as_f (r_geq (hA.ev rfl) (hA.ev rfl)) (by omega)) ?_; clear hA a; intro a hA
                          refine go1 hA rfl rfl rfl (r_move (hA.ev rfl)) ?_; clear hA a; intro a hA
                          refine go1y hA (wanted_yes hA rfl rfl rfl) rfl rfl (r_move (hA.ev rfl)) ?_; clear hA a; intro a hA
                          refine go1y hA (wanted_yes hA rfl rfl rfl) rfl rfl (r_load (hA.ev rfl) T.fl3 (by first | exact hS.cell rfl | exact (hS.p 1).cell rfl | exact (hS.p 2).cell rfl | exact (hS.p 3).cell rfl | exact (hS.p 4).cell rfl | exact (hS.p 5).cell rfl | exact (hS.p 6).cell rfl | exact (hS.p 7).cell rfl | exact (hS.p 8).cell rfl | exact (hS.p 9).cell rfl | exact (hS.p 10).cell rfl | exact (hS.p 11).cell rfl | exact (hS.p 12).cell rfl | exact (hS.p 13).cell rfl | exact (hS.p 14).cell rfl | exact (hS.p 15).cell rfl | exact (hS.p 16).cell rfl | exact (hS.p 17).cell rfl | exact (hS.p 18).cell rfl | exact (hS.p 19).cell rfl)) ?_; clear hA a; intro a hA
                          refine go1y hA (wanted_yes hA rfl rfl rfl) rfl rfl (r_load (hA.ev rfl) T.fl3 (by first | exact hS.cell rfl | exact (hS.p 1).cell rfl | exact (hS.p 2).cell rfl | exact (hS.p 3).cell rfl | exact (hS.p 4).cell rfl | exact (hS.p 5).cell rfl | exact (hS.p 6).cell rfl | exact (hS.p 7).cell rfl | exact (hS.p 8).cell rfl | exact (hS.p 9).cell rfl | exact (hS.p 10).cell rfl | exact (hS.p 11).cell rfl | exact (hS.p 12).cell rfl | exact (hS.p 13).cell rfl | exact (hS.p 14).cell rfl | exact (hS.p 15).cell rfl | exact (hS.p 16).cell rfl | exact (hS.p 17).cell rfl | exact (hS.p 18).cell rfl | exact (hS.p 19).cell rfl)) ?_; clear hA a; intro a hA
                          refine go1y hA (wanted_yes hA rfl rfl rfl) rfl rfl (r_add64 (hA.ev rfl) (hA.ev rfl) (by omega) (by omega)) ?_; clear hA a; intro a hA
                          refine go1y hA (wanted_yes hA rfl rfl rfl) rfl rfl (as_f (r_neq (hA.ev rfl) (hA.ev rfl)) (by omega)) ?_; clear hA a; intro a hA
                          refine go1 hA rfl rfl rfl (r_pick_f (hA.ev rfl) (hA.ev rfl)) ?_; clear hA a; intro a hA
                          refine go1 hA rfl rfl rfl (r_move (hA.ev rfl)) ?_; clear hA a; intro a hA
                          refine go1y hA (wanted_yes hA rfl rfl rfl) rfl rfl (r_move (hA.ev rfl)) ?_; clear hA a; intro a hA
                          refine go1y hA (wanted_yes hA rfl rfl rfl) rfl rfl (r_load (hA.ev rfl) T.fl54 (by first | exact hS.cell rfl | exact (hS.p 1).cell rfl | exact (hS.p 2).cell rfl | exact (hS.p 3).cell rfl | exact (hS.p 4).cell rfl | exact (hS.p 5).cell rfl | exact (hS.p 6).cell rfl | exact (hS.p 7).cell rfl | exact (hS.p 8).cell rfl | exact (hS.p 9).cell rfl | exact (hS.p 10).cell rfl | exact (hS.p 11).cell rfl | exact (hS.p 12).cell rfl | exact (hS.p 13).cell rfl | exact (hS.p 14).cell rfl | exact (hS.p 15).cell rfl | exact (hS.p 16).cell rfl | exact (hS.p 17).cell rfl | exact (hS.p 18).cell rfl | exact (hS.p 19).cell rfl)) ?_; clear hA a; intro a hA
                          refine go1y hA (wanted_yes hA rfl rfl rfl) rfl rfl (r_load (hA.ev rfl) T.fl3 (by first | exact hS.cell rfl | exact (hS.p 1).cell rfl | exact (hS.p 2).cell rfl | exact (hS.p 3).cell rfl | exact (hS.p 4).cell rfl | exact (hS.p 5).cell rfl | exact (hS.p 6).cell rfl | exact (hS.p 7).cell rfl | exact (hS.p 8).cell rfl | exact (hS.p 9).cell rfl | exact (hS.p 10).cell rfl | exact (hS.p 11).cell rfl | exact (hS.p 12).cell rfl | exact (hS.p 13).cell rfl | exact (hS.p 14).cell rfl | exact (hS.p 15).cell rfl | exact (hS.p 16).cell rfl | exact (hS.p 17).cell rfl | exact (hS.p 18).cell rfl | exact (hS.p 19).cell rfl)) ?_; clear hA a; intro a hA
                          refine go1y hA (wanted_yes hA rfl rfl rfl) rfl rfl (r_index (hA.ev rfl) (hA.ev rfl) T.un54 T.sz3 (by omega) (by omega)) ?_; clear hA a; intro a hA
                          refine go1y hA (wanted_yes hA rfl rfl rfl) rfl rfl (r_load (hA.ev rfl) T.fl3 (rdl (hS.p 5).rd (map_at hyx))) ?_; clear hA a; intro a hA
                          refine go1y hA (wanted_yes hA rfl rfl rfl) rfl rfl (as_f (r_neq (hA.ev rfl) (hA.ev rfl)) (by omega)) ?_; clear hA a; intro a hA
                          refine go1 hA rfl rfl rfl (r_pick_f (hA.ev rfl) (hA.ev rfl)) ?_; clear hA a; intro a hA
                          refine wpList_nil ?_
                          refine hk51 _ _ ?_
                          clear hk51 k51
                          replace hA := hA.keep (.cons (i := 2) rfl (.cons (i := 9) rfl (.cons (i := 11) rfl (.cons (i := 15) rfl (.cons (i := 18) rfl (.cons (i := 148) rfl .nil))))))
                          refine wpIn_cond_false (hA.ev rfl) ?_
                          refine wpIn_skip ?_
                          refine hk50 _ _ ?_
                          clear hk50 k50
                          replace hA := hA.keep (.cons (i := 2) rfl (.cons (i := 9) rfl (.cons (i := 11) rfl (.cons (i := 15) rfl (.cons (i := 18) rfl .nil)))))
                          refine wpIn_seq_k fun k52 hk52 => ?_
                          refine region_in (open_round _) (fun ⟨_, _, hq⟩ => False.elim hq) rfl ?_
                          refine go1 hA rfl rfl rfl (r_load (hA.ev rfl) T.fl3 (by first | exact hS.cell rfl | exact (hS.p 1).cell rfl | exact (hS.p 2).cell rfl | exact (hS.p 3).cell rfl | exact (hS.p 4).cell rfl | exact (hS.p 5).cell rfl | exact (hS.p 6).cell rfl | exact (hS.p 7).cell rfl | exact (hS.p 8).cell rfl | exact (hS.p 9).cell rfl | exact (hS.p 10).cell rfl | exact (hS.p 11).cell rfl | exact (hS.p 12).cell rfl | exact (hS.p 13).cell rfl | exact (hS.p 14).cell rfl | exact (hS.p 15).cell rfl | exact (hS.p 16).cell rfl | exact (hS.p 17).cell rfl | exact (hS.p 18).cell rfl | exact (hS.p 19).cell rfl)) ?_; clear hA a; intro a hA
                          refine go1 hA rfl rfl rfl (r_add64 (hA.ev rfl) (hA.ev rfl) (by omega) (by omega)) ?_; clear hA a; intro a hA
                          first | refine goW2 (cs' := [_]) hA rfl rfl T.fl3 T.sz3 rfl hS rfl rfl ?_ | refine goW2 (cs' := [_]) hA rfl rfl T.fl3 T.sz3 rfl (hS.p 1) rfl rfl ?_ | refine goW2 (cs' := [_]) hA rfl rfl T.fl3 T.sz3 rfl (hS.p 2) rfl rfl ?_ | refine goW2 (cs' := [_]) hA rfl rfl T.fl3 T.sz3 rfl (hS.p 3) rfl rfl ?_ | refine goW2 (cs' := [_]) hA rfl rfl T.fl3 T.sz3 rfl (hS.p 4) rfl rfl ?_ | refine goW2 (cs' := [_]) hA rfl rfl T.fl3 T.sz3 rfl (hS.p 5) rfl rfl ?_ | refine goW2 (cs' := [_]) hA rfl rfl T.fl3 T.sz3 rfl (hS.p 6) rfl rfl ?_ | refine goW2 (cs' := [_]) hA rfl rfl T.fl3 T.sz3 rfl (hS.p 7) rfl rfl ?_ | refine goW2 (cs' := [_]) hA rfl rfl T.fl3 T.sz3 rfl (hS.p 8) rfl rfl ?_ | refine goW2 (cs' := [_]) hA rfl rfl T.fl3 T.sz3 rfl (hS.p 9) rfl rfl ?_ | refine goW2 (cs' := [_]) hA rfl rfl T.fl3 T.sz3 rfl (hS.p 10) rfl rfl ?_ | refine goW2 (cs' := [_]) hA rfl rfl T.fl3 T.sz3 rfl (hS.p 11) rfl rfl ?_ | refine goW2 (cs' := [_]) hA rfl rfl T.fl3 T.sz3 rfl (hS.p 12) rfl rfl ?_ | refine goW2 (cs' := [_]) hA rfl rfl T.fl3 T.sz3 rfl (hS.p 13) rfl rfl ?_ | refine goW2 (cs' := [_]) hA rfl rfl T.fl3 T.sz3 rfl (hS.p 14) rfl rfl ?_ | refine goW2 (cs' := [_]) hA rfl rfl T.fl3 T.sz3 rfl (hS.p 15) rfl rfl ?_ | refine goW2 (cs' := [_]) hA rfl rfl T.fl3 T.sz3 rfl (hS.p 16) rfl rfl ?_ | refine goW2 (cs' := [_]) hA rfl rfl T.fl3 T.sz3 rfl (hS.p 17) rfl rfl ?_ | refine goW2 (cs' := [_]) hA rfl rfl T.fl3 T.sz3 rfl (hS.p 18) rfl rfl ?_ | refine goW2 (cs' := [_]) hA rfl rfl T.fl3 T.sz3 rfl (hS.p 19) rfl rfl ?_
                          clear hS; intro w hS
                          refine wpList_nil ?_
                          refine hk52 _ _ ?_
                          clear hk52 k52
                          replace hA := hA.keep (.cons (i := 2) rfl (.cons (i := 9) rfl (.cons (i := 11) rfl (.cons (i := 15) rfl (.cons (i := 18) rfl .nil)))))
                          refine wpIn_seq_k fun k53 hk53 => ?_
                          refine region_in (open_round _) (fun ⟨_, _, hq⟩ => False.elim hq) rfl ?_
                          refine goN hA rfl T.zv3 hS ?_
                          clear hA a hS; intro b21 w hS a hA
                          first | refine goW2 (cs' := [_]) hA rfl rfl T.fl3 T.sz3 rfl hS rfl rfl ?_ | refine goW2 (cs' := [_]) hA rfl rfl T.fl3 T.sz3 rfl (hS.p 1) rfl rfl ?_ | refine goW2 (cs' := [_]) hA rfl rfl T.fl3 T.sz3 rfl (hS.p 2) rfl rfl ?_ | refine goW2 (cs' := [_]) hA rfl rfl T.fl3 T.sz3 rfl (hS.p 3) rfl rfl ?_ | refine goW2 (cs' := [_]) hA rfl rfl T.fl3 T.sz3 rfl (hS.p 4) rfl rfl ?_ | refine goW2 (cs' := [_]) hA rfl rfl T.fl3 T.sz3 rfl (hS.p 5) rfl rfl ?_ | refine goW2 (cs' := [_]) hA rfl rfl T.fl3 T.sz3 rfl (hS.p 6) rfl rfl ?_ | refine goW2 (cs' := [_]) hA rfl rfl T.fl3 T.sz3 rfl (hS.p 7) rfl rfl ?_ | refine goW2 (cs' := [_]) hA rfl rfl T.fl3 T.sz3 rfl (hS.p 8) rfl rfl ?_ | refine goW2 (cs' := [_]) hA rfl rfl T.fl3 T.sz3 rfl (hS.p 9) rfl rfl ?_ | refine goW2 (cs' := [_]) hA rfl rfl T.fl3 T.sz3 rfl (hS.p 10) rfl rfl ?_ | refine goW2 (cs' := [_]) hA rfl rfl T.fl3 T.sz3 rfl (hS.p 11) rfl rfl ?_ | refine goW2 (cs' := [_]) hA rfl rfl T.fl3 T.sz3 rfl (hS.p 12) rfl rfl ?_ | refine goW2 (cs' := [_]) hA rfl rfl T.fl3 T.sz3 rfl (hS.p 13) rfl rfl ?_ | refine goW2 (cs' := [_]) hA rfl rfl T.fl3 T.sz3 rfl (hS.p 14) rfl rfl ?_ | refine goW2 (cs' := [_]) hA rfl rfl T.fl3 T.sz3 rfl (hS.p 15) rfl rfl ?_ | refine goW2 (cs' := [_]) hA rfl rfl T.fl3 T.sz3 rfl (hS.p 16) rfl rfl ?_ | refine goW2 (cs' := [_]) hA rfl rfl T.fl3 T.sz3 rfl (hS.p 17) rfl rfl ?_ | refine goW2 (cs' := [_]) hA rfl rfl T.fl3 T.sz3 rfl (hS.p 18) rfl rfl ?_ | refine goW2 (cs' := [_]) hA rfl rfl T.fl3 T.sz3 rfl (hS.p 19) rfl rfl ?_
                          clear hS; intro w hS
                          refine wpList_nil ?_
                          refine hk53 _ _ ?_
                          clear hk53 k53
                          refine wpIn_seq_k fun k54 hk54 => ?_
                          refine wpIn_seq_k fun k55 hk55 => ?_
                          refine region_in (open_round _) (fun ⟨_, _, hq⟩ => False.elim hq) rfl ?_
                          refine go1 hA rfl rfl rfl (r_load (hA.ev rfl) T.fl87 (by first | exact hS.cell rfl | exact (hS.p 1).cell rfl | exact (hS.p 2).cell rfl | exact (hS.p 3).cell rfl | exact (hS.p 4).cell rfl | exact (hS.p 5).cell rfl | exact (hS.p 6).cell rfl | exact (hS.p 7).cell rfl | exact (hS.p 8).cell rfl | exact (hS.p 9).cell rfl | exact (hS.p 10).cell rfl | exact (hS.p 11).cell rfl | exact (hS.p 12).cell rfl | exact (hS.p 13).cell rfl | exact (hS.p 14).cell rfl | exact (hS.p 15).cell rfl | exact (hS.p 16).cell rfl | exact (hS.p 17).cell rfl | exact (hS.p 18).cell rfl | exact (hS.p 19).cell rfl)) ?_; clear hA a; intro a hA
                          refine wpList_nil ?_
                          refine hk55 _ _ ?_
                          clear hk55 k55
                          replace hA := hA.keep (.cons (i := 2) rfl (.cons (i := 9) rfl (.cons (i := 11) rfl (.cons (i := 18) rfl (.cons (i := 21) rfl (.cons (i := 151) rfl .nil))))))
                          refine wpIn_block ?_
                          refine wpIn_rangeN (xs := wks (s + (g : Int)) ys) (fun j h => j ≤ k ∧ wlY Bs As b9 b11 b15 b18 b21 (s + (g : Int)) ps (some ph_p) cs ch ys (k + 1) j h) (fun c h => c = .exit 6 ∧ wlY Bs As b9 b11 b15 b18 b21 (s + (g : Int)) ps (some ph_p) cs ch ys (k + 1) (k + 1) h) (hA.ev rfl) (fun _ _ => run_callFunc (by kernel_rfl)) (Walk1_iter (p := ps) (c := cs) (by omega) (by omega) (by omega)) ?_ ?_ ((tostars (M := [_, _, _, _, _, _, _, _, _]) (((((((((hS.p 1).p 8).p 8).p 8).p 8).p 8).p 8).p 8))).imp fun h x => ⟨Nat.zero_le _, x⟩) ?_ ?_ ?_
                          · intro x hx; obtain ⟨k, hk⟩ := List.mem_iff_getElem?.1 hx; obtain ⟨y, _, rfl⟩ := wks_of hk; rfl
                          · exact fun k w' M h => wlY_cap (Sat.fact h).2
                          · skip
                            intro r2 j x L3 w hx hS
                            obtain ⟨y2, hyx2, rfl⟩ := wks_of hx; have hjl := (List.getElem?_eq_some_iff.1 hyx2).1; obtain ⟨hjk, hS⟩ := Sat.fact hS; replace hS := unstars hS
                            have hA := ag_round2 hA (p := 152) (q := 153) rfl rfl (.int .i64 ((s + (g : Int)) + (j : Int))) (.int .i64 y2)
                            revert hA
                            generalize ({ tmps := _, defers := [] } : Act) = a
                            intro hA
                            refine wpIn_seq_k fun k56 hk56 => ?_
                            refine region_in (open_round _) (fun ⟨_, _, hq⟩ => False.elim hq) rfl ?_
                            refine go1 hA rfl rfl rfl (r_assign (hA.ev rfl)) ?_; clear hA a; intro a hA
                            refine wpList_nil ?_
                            refine hk56 _ _ ?_
                            clear hk56 k56
                            refine region_in (open_round _) (fun ⟨_, _, hq⟩ => False.elim hq) rfl ?_
                            refine go1 hA rfl rfl rfl (r_assign (hA.ev rfl)) ?_; clear hA a; intro a hA
                            refine wpList_nil ?_
                            refine ⟨stars [_, _, _, _, _, _, _, _, _], tostars (M := [_, _, _, _, _, _, _, _, _]) hS, fun lr L2 w hS => ?_⟩
                            replace hS := unstars hS
                            refine wpIn_block ?_
                            refine wpIn_seq_k fun k57 hk57 => ?_
                            refine wpIn_seq_k fun k58 hk58 => ?_
                            refine region_in (open_round _) (fun ⟨_, _, hq⟩ => False.elim hq) rfl ?_
                            refine go1 hA rfl rfl rfl (r_load (hA.ev rfl) T.fl3 (by first | exact hS.cell rfl | exact (hS.p 1).cell rfl | exact (hS.p 2).cell rfl | exact (hS.p 3).cell rfl | exact (hS.p 4).cell rfl | exact (hS.p 5).cell rfl | exact (hS.p 6).cell rfl | exact (hS.p 7).cell rfl | exact (hS.p 8).cell rfl | exact (hS.p 9).cell rfl | exact (hS.p 10).cell rfl | exact (hS.p 11).cell rfl | exact (hS.p 12).cell rfl | exact (hS.p 13).cell rfl | exact (hS.p 14).cell rfl | exact (hS.p 15).cell rfl | exact (hS.p 16).cell rfl | exact (hS.p 17).cell rfl | exact (hS.p 18).cell rfl | exact (hS.p 19).cell rfl)) ?_; clear hA a; intro a hA
                            refine go1 hA rfl rfl rfl (r_load (hA.ev rfl) T.fl54 (by first | exact hS.cell rfl | exact (hS.p 1).cell rfl | exact (hS.p 2).cell rfl | exact (hS.p 3).cell rfl | exact (hS.p 4).cell rfl | exact (hS.p 5).cell rfl | exact (hS.p 6).cell rfl | exact (hS.p 7).cell rfl | exact (hS.p 8).cell rfl | exact (hS.p 9).cell rfl | exact (hS.p 10).cell rfl | exact (hS.p 11).cell rfl | exact (hS.p 12).cell rfl | exact (hS.p 13).cell rfl | exact (hS.p 14).cell rfl | exact (hS.p 15).cell rfl | exact (hS.p 16).cell rfl | exact (hS.p 17).cell rfl | exact (hS.p 18).cell rfl | exact (hS.p 19).cell rfl)) ?_; clear hA a; intro a hA
                            refine go1 hA rfl rfl rfl (r_lens (hA.ev rfl) T.un54) ?_; clear hA a; intro a hA
                            refine go1 hA rfl rfl rfl (as_f (r_geq (hA.ev rfl) (hA.ev rfl)) (by omega)) ?_; clear hA a; intro a hA
                            refine go1 hA rfl rfl rfl (r_move (hA.ev rfl)) ?_; clear hA a; intro a hA
                            refine go1y hA (wanted_yes hA rfl rfl rfl) rfl rfl (r_move (hA.ev rfl)) ?_; clear hA a; intro a hA
                            refine go1y hA (wanted_yes hA rfl rfl rfl) rfl rfl (r_load (hA.ev rfl) T.fl3 (by first | exact hS.cell rfl | exact (hS.p 1).cell rfl | exact (hS.p 2).cell rfl | exact (hS.p 3).cell rfl | exact (hS.p 4).cell rfl | exact (hS.p 5).cell rfl | exact (hS.p 6).cell rfl | exact (hS.p 7).cell rfl | exact (hS.p 8).cell rfl | exact (hS.p 9).cell rfl | exact (hS.p 10).cell rfl | exact (hS.p 11).cell rfl | exact (hS.p 12).cell rfl | exact (hS.p 13).cell rfl | exact (hS.p 14).cell rfl | exact (hS.p 15).cell rfl | exact (hS.p 16).cell rfl | exact (hS.p 17).cell rfl | exact (hS.p 18).cell rfl | exact (hS.p 19).cell rfl)) ?_; clear hA a; intro a hA
                            refine go1y hA (wanted_yes hA rfl rfl rfl) rfl rfl (r_load (hA.ev rfl) T.fl3 (by first | exact hS.cell rfl | exact (hS.p 1).cell rfl | exact (hS.p 2).cell rfl | exact (hS.p 3).cell rfl | exact (hS.p 4).cell rfl | exact (hS.p 5).cell rfl | exact (hS.p 6).cell rfl | exact (hS.p 7).cell rfl | exact (hS.p 8).cell rfl | exact (hS.p 9).cell rfl | exact (hS.p 10).cell rfl | exact (hS.p 11).cell rfl | exact (hS.p 12).cell rfl | exact (hS.p 13).cell rfl | exact (hS.p 14).cell rfl | exact (hS.p 15).cell rfl | exact (hS.p 16).cell rfl | exact (hS.p 17).cell rfl | exact (hS.p 18).cell rfl | exact (hS.p 19).cell rfl)) ?_; clear hA a; intro a hA
                            refine go1y hA (wanted_yes hA rfl rfl rfl) rfl rfl (r_add64 (hA.ev rfl) (hA.ev rfl) (by omega) (by omega)) ?_; clear hA a; intro a hA
                            refine go1y hA (wanted_yes hA rfl rfl rfl) rfl rfl (as_f (r_neq (hA.ev rfl) (hA.ev rfl)) (by omega)) ?_; clear hA a; intro a hA
                            refine go1 hA rfl rfl rfl (r_pick_f (hA.ev rfl) (hA.ev rfl)) ?_; clear hA a; intro a hA
                            refine go1 hA rfl rfl rfl (r_move (hA.ev rfl)) ?_; clear hA a; intro a hA
                            refine go1y hA (wanted_yes hA rfl rfl rfl) rfl rfl (r_move (hA.ev rfl)) ?_; clear hA a; intro a hA
                            refine go1y hA (wanted_yes hA rfl rfl rfl) rfl rfl (r_load (hA.ev rfl) T.fl54 (by first | exact hS.cell rfl | exact (hS.p 1).cell rfl | exact (hS.p 2).cell rfl | exact (hS.p 3).cell rfl | exact (hS.p 4).cell rfl | exact (hS.p 5).cell rfl | exact (hS.p 6).cell rfl | exact (hS.p 7).cell rfl | exact (hS.p 8).cell rfl | exact (hS.p 9).cell rfl | exact (hS.p 10).cell rfl | exact (hS.p 11).cell rfl | exact (hS.p 12).cell rfl | exact (hS.p 13).cell rfl | exact (hS.p 14).cell rfl | exact (hS.p 15).cell rfl | exact (hS.p 16).cell rfl | exact (hS.p 17).cell rfl | exact (hS.p 18).cell rfl | exact (hS.p 19).cell rfl)) ?_; clear hA a; intro a hA
                            refine go1y hA (wanted_yes hA rfl rfl rfl) rfl rfl (r_load (hA.ev rfl) T.fl3 (by first | exact hS.cell rfl | exact (hS.p 1).cell rfl | exact (hS.p 2).cell rfl | exact (hS.p 3).cell rfl | exact (hS.p 4).cell rfl | exact (hS.p 5).cell rfl | exact (hS.p 6).cell rfl | exact (hS.p 7).cell rfl | exact (hS.p 8).cell rfl | exact (hS.p 9).cell rfl | exact (hS.p 10).cell rfl | exact (hS.p 11).cell rfl | exact (hS.p 12).cell rfl | exact (hS.p 13).cell rfl | exact (hS.p 14).cell rfl | exact (hS.p 15).cell rfl | exact (hS.p 16).cell rfl | exact (hS.p 17).cell rfl | exact (hS.p 18).cell rfl | exact (hS.p 19).cell rfl)) ?_; clear hA a; intro a hA
                            refine go1y hA (wanted_yes hA rfl rfl rfl) rfl rfl (r_index (hA.ev rfl) (hA.ev rfl) T.un54 T.sz3 (by omega) (by omega)) ?_; clear hA a; intro a hA
                            refine go1y hA (wanted_yes hA rfl rfl rfl) rfl rfl (r_load (hA.ev rfl) T.fl3 (rdl (hS.p 5).rd (map_at hyx2))) ?_; clear hA a; intro a hA
                            refine go1y hA (wanted_yes hA rfl rfl rfl) rfl rfl (as_f (r_neq (hA.ev rfl) (hA.ev rfl)) (by omega)) ?_; clear hA a; intro a hA
                            refine go1 hA rfl rfl rfl (r_pick_f (hA.ev rfl) (hA.ev rfl)) ?_; clear hA a; intro a hA
                            refine wpList_nil ?_
                            refine hk58 _ _ ?_
                            clear hk58 k58
                            replace hA := hA.keep (.cons (i := 2) rfl (.cons (i := 18) rfl (.cons (i := 21) rfl (.cons (i := 172) rfl .nil))))
                            refine wpIn_cond_false (hA.ev rfl) ?_
                            refine wpIn_skip ?_
                            refine hk57 _ _ ?_
                            clear hk57 k57
                            replace hA := hA.keep (.cons (i := 18) rfl (.cons (i := 21) rfl .nil))
                            refine wpIn_seq_k fun k59 hk59 => ?_
                            refine region_in (open_round _) (fun ⟨_, _, hq⟩ => False.elim hq) rfl ?_
                            refine go1 hA rfl rfl rfl (r_load (hA.ev rfl) T.fl3 (by first | exact hS.cell rfl | exact (hS.p 1).cell rfl | exact (hS.p 2).cell rfl | exact (hS.p 3).cell rfl | exact (hS.p 4).cell rfl | exact (hS.p 5).cell rfl | exact (hS.p 6).cell rfl | exact (hS.p 7).cell rfl | exact (hS.p 8).cell rfl | exact (hS.p 9).cell rfl | exact (hS.p 10).cell rfl | exact (hS.p 11).cell rfl | exact (hS.p 12).cell rfl | exact (hS.p 13).cell rfl | exact (hS.p 14).cell rfl | exact (hS.p 15).cell rfl | exact (hS.p 16).cell rfl | exact (hS.p 17).cell rfl | exact (hS.p 18).cell rfl | exact (hS.p 19).cell rfl)) ?_; clear hA a; intro a hA
                            refine go1 hA rfl rfl rfl (r_add64 (hA.ev rfl) (hA.ev rfl) (by omega) (by omega)) ?_; clear hA a; intro a hA
                            first | refine goW2 (cs' := [_]) hA rfl rfl T.fl3 T.sz3 rfl hS rfl rfl ?_ | refine goW2 (cs' := [_]) hA rfl rfl T.fl3 T.sz3 rfl (hS.p 1) rfl rfl ?_ | refine goW2 (cs' := [_]) hA rfl rfl T.fl3 T.sz3 rfl (hS.p 2) rfl rfl ?_ | refine goW2 (cs' := [_]) hA rfl rfl T.fl3 T.sz3 rfl (hS.p 3) rfl rfl ?_ | refine goW2 (cs' := [_]) hA rfl rfl T.fl3 T.sz3 rfl (hS.p 4) rfl rfl ?_ | refine goW2 (cs' := [_]) hA rfl rfl T.fl3 T.sz3 rfl (hS.p 5) rfl rfl ?_ | refine goW2 (cs' := [_]) hA rfl rfl T.fl3 T.sz3 rfl (hS.p 6) rfl rfl ?_ | refine goW2 (cs' := [_]) hA rfl rfl T.fl3 T.sz3 rfl (hS.p 7) rfl rfl ?_ | refine goW2 (cs' := [_]) hA rfl rfl T.fl3 T.sz3 rfl (hS.p 8) rfl rfl ?_ | refine goW2 (cs' := [_]) hA rfl rfl T.fl3 T.sz3 rfl (hS.p 9) rfl rfl ?_ | refine goW2 (cs' := [_]) hA rfl rfl T.fl3 T.sz3 rfl (hS.p 10) rfl rfl ?_ | refine goW2 (cs' := [_]) hA rfl rfl T.fl3 T.sz3 rfl (hS.p 11) rfl rfl ?_ | refine goW2 (cs' := [_]) hA rfl rfl T.fl3 T.sz3 rfl (hS.p 12) rfl rfl ?_ | refine goW2 (cs' := [_]) hA rfl rfl T.fl3 T.sz3 rfl (hS.p 13) rfl rfl ?_ | refine goW2 (cs' := [_]) hA rfl rfl T.fl3 T.sz3 rfl (hS.p 14) rfl rfl ?_ | refine goW2 (cs' := [_]) hA rfl rfl T.fl3 T.sz3 rfl (hS.p 15) rfl rfl ?_ | refine goW2 (cs' := [_]) hA rfl rfl T.fl3 T.sz3 rfl (hS.p 16) rfl rfl ?_ | refine goW2 (cs' := [_]) hA rfl rfl T.fl3 T.sz3 rfl (hS.p 17) rfl rfl ?_ | refine goW2 (cs' := [_]) hA rfl rfl T.fl3 T.sz3 rfl (hS.p 18) rfl rfl ?_ | refine goW2 (cs' := [_]) hA rfl rfl T.fl3 T.sz3 rfl (hS.p 19) rfl rfl ?_
                            clear hS; intro w hS
                            refine wpList_nil ?_
                            refine hk59 _ _ ?_
                            clear hk59 k59
                            replace hA := hA.keep (.cons (i := 18) rfl (.cons (i := 21) rfl .nil))
                            refine wpIn_seq_k fun k60 hk60 => ?_
                            refine region_in (open_round _) (fun ⟨_, _, hq⟩ => False.elim hq) rfl ?_
                            refine go1 hA rfl rfl rfl (r_load (hA.ev rfl) T.fl3 (by first | exact hS.cell rfl | exact (hS.p 1).cell rfl | exact (hS.p 2).cell rfl | exact (hS.p 3).cell rfl | exact (hS.p 4).cell rfl | exact (hS.p 5).cell rfl | exact (hS.p 6).cell rfl | exact (hS.p 7).cell rfl | exact (hS.p 8).cell rfl | exact (hS.p 9).cell rfl | exact (hS.p 10).cell rfl | exact (hS.p 11).cell rfl | exact (hS.p 12).cell rfl | exact (hS.p 13).cell rfl | exact (hS.p 14).cell rfl | exact (hS.p 15).cell rfl | exact (hS.p 16).cell rfl | exact (hS.p 17).cell rfl | exact (hS.p 18).cell rfl | exact (hS.p 19).cell rfl)) ?_; clear hA a; intro a hA
                            refine go1 hA rfl rfl rfl (r_load (hA.ev rfl) T.fl3 (by first | exact hS.cell rfl | exact (hS.p 1).cell rfl | exact (hS.p 2).cell rfl | exact (hS.p 3).cell rfl | exact (hS.p 4).cell rfl | exact (hS.p 5).cell rfl | exact (hS.p 6).cell rfl | exact (hS.p 7).cell rfl | exact (hS.p 8).cell rfl | exact (hS.p 9).cell rfl | exact (hS.p 10).cell rfl | exact (hS.p 11).cell rfl | exact (hS.p 12).cell rfl | exact (hS.p 13).cell rfl | exact (hS.p 14).cell rfl | exact (hS.p 15).cell rfl | exact (hS.p 16).cell rfl | exact (hS.p 17).cell rfl | exact (hS.p 18).cell rfl | exact (hS.p 19).cell rfl)) ?_; clear hA a; intro a hA
                            refine go1s hA rfl rfl rfl (r_eql (hA.ev rfl) (hA.ev rfl)) ?_ ?_
                            · clear hA a; intro h177 a hA
                              try (first | contradiction | (exfalso; omega) | (exfalso; simp at h177; done))
                              all_goals
                               skip
                               refine wpList_nil ?_
                               refine hk60 _ _ ?_
                               clear hk60 k60
                               replace hA := hA.keep (.cons (i := 177) rfl .nil)
                               refine wpIn_cond_true (hA.ev rfl) ?_
                               refine wpIn_exit ?_
                               refine block_miss rfl ?_
                               obtain rfl : j = k := by omega
                               exact (tostars (M := [_, _, _, _, _, _, _, _, _]) (((((((((hS.p 8).p 8).p 8).p 8).p 8).p 8).p 8).p 8))).imp fun h x => ⟨rfl, x⟩
                            · clear hA a; intro h177 a hA
                              try (first | contradiction | (exfalso; omega) | (exfalso; simp at h177; done))
                              all_goals
                               skip
                               refine wpList_nil ?_
                               refine hk60 _ _ ?_
                               clear hk60 k60
                               replace hA := hA.keep (.cons (i := 177) rfl .nil)
                               refine wpIn_cond_false (hA.ev rfl) ?_
                               refine wpIn_skip ?_
                               refine block_normal ?_
                               exact (tostars (M := [_, _, _, _, _, _, _, _, _]) (((((((((hS.p 8).p 8).p 8).p 8).p 8).p 8).p 8).p 8))).imp fun h x => ⟨by omega, x⟩
                          · skip
                            intro w hS
                            exfalso; obtain ⟨hjk, hS⟩ := Sat.fact hS; rw [wks_len] at hjk; omega
                          · skip
                            intro c w hS
                            obtain ⟨hc, hS⟩ := Sat.fact hS; replace hS := unstars hS; rw [hc]
                            refine wpIn_exit ?_
                            refine block_hit ?_
                            refine hk54 _ _ ?_
                            clear hk54 k54
                            replace hA := hA.keep (.cons (i := 2) rfl (.cons (i := 18) rfl (.cons (i := 21) rfl .nil)))
                            refine wpIn_seq_k fun k61 hk61 => ?_
                            refine region_in (open_round _) (fun ⟨_, _, hq⟩ => False.elim hq) rfl ?_
                            refine go1 hA rfl rfl rfl (r_load (hA.ev rfl) T.fl3 (by first | exact hS.cell rfl | exact (hS.p 1).cell rfl | exact (hS.p 2).cell rfl | exact (hS.p 3).cell rfl | exact (hS.p 4).cell rfl | exact (hS.p 5).cell rfl | exact (hS.p 6).cell rfl | exact (hS.p 7).cell rfl | exact (hS.p 8).cell rfl | exact (hS.p 9).cell rfl | exact (hS.p 10).cell rfl | exact (hS.p 11).cell rfl | exact (hS.p 12).cell rfl | exact (hS.p 13).cell rfl | exact (hS.p 14).cell rfl | exact (hS.p 15).cell rfl | exact (hS.p 16).cell rfl | exact (hS.p 17).cell rfl | exact (hS.p 18).cell rfl | exact (hS.p 19).cell rfl)) ?_; clear hA a; intro a hA
                            refine go1 hA rfl rfl rfl (r_load (hA.ev rfl) T.fl3 (by first | exact hS.cell rfl | exact (hS.p 1).cell rfl | exact (hS.p 2).cell rfl | exact (hS.p 3).cell rfl | exact (hS.p 4).cell rfl | exact (hS.p 5).cell rfl | exact (hS.p 6).cell rfl | exact (hS.p 7).cell rfl | exact (hS.p 8).cell rfl | exact (hS.p 9).cell rfl | exact (hS.p 10).cell rfl | exact (hS.p 11).cell rfl | exact (hS.p 12).cell rfl | exact (hS.p 13).cell rfl | exact (hS.p 14).cell rfl | exact (hS.p 15).cell rfl | exact (hS.p 16).cell rfl | exact (hS.p 17).cell rfl | exact (hS.p 18).cell rfl | exact (hS.p 19).cell rfl)) ?_; clear hA a; intro a hA
                            refine go1 hA rfl rfl rfl (as_f (r_neq (hA.ev rfl) (hA.ev rfl)) (by omega)) ?_; clear hA a; intro a hA
                            refine wpList_nil ?_
                            refine hk61 _ _ ?_
                            clear hk61 k61
                            replace hA := hA.keep (.cons (i := 2) rfl (.cons (i := 180) rfl .nil))
                            refine wpIn_cond_false (hA.ev rfl) ?_
                            refine wpIn_skip ?_
                            refine block_normal ?_
                            exact tostars (M := [_, _, _, _, _, _, _, _]) ((hS.p 8).drop)
                        · skip
                          intro D w hS
                          have hA := ag_mark hA D
                          revert hA
                          generalize ({ a with defers := _ :: a.defers } : Act) = a
                          intro hA
                          rw [wks_len] at hS; replace hS := unstars hS
                          refine block_normal ?_
                          refine hk47 _ _ ?_
                          clear hk47 k47
                          refine wp_seq_k fun k62 hk62 => ?_
                          refine wp_seq_k fun k63 hk63 => ?_
                          refine wp_region_lit ?_
                          refine go1 hA rfl rfl rfl (r_load (hA.ev rfl) T.fl3 (by first | exact hS.cell rfl | exact (hS.p 1).cell rfl | exact (hS.p 2).cell rfl | exact (hS.p 3).cell rfl | exact (hS.p 4).cell rfl | exact (hS.p 5).cell rfl | exact (hS.p 6).cell rfl | exact (hS.p 7).cell rfl | exact (hS.p 8).cell rfl | exact (hS.p 9).cell rfl | exact (hS.p 10).cell rfl | exact (hS.p 11).cell rfl | exact (hS.p 12).cell rfl | exact (hS.p 13).cell rfl | exact (hS.p 14).cell rfl | exact (hS.p 15).cell rfl | exact (hS.p 16).cell rfl | exact (hS.p 17).cell rfl | exact (hS.p 18).cell rfl | exact (hS.p 19).cell rfl)) ?_; clear hA a; intro a hA
                          refine go1 hA rfl rfl rfl (r_load (hA.ev rfl) T.fl54 (by first | exact hS.cell rfl | exact (hS.p 1).cell rfl | exact (hS.p 2).cell rfl | exact (hS.p 3).cell rfl | exact (hS.p 4).cell rfl | exact (hS.p 5).cell rfl | exact (hS.p 6).cell rfl | exact (hS.p 7).cell rfl | exact (hS.p 8).cell rfl | exact (hS.p 9).cell rfl | exact (hS.p 10).cell rfl | exact (hS.p 11).cell rfl | exact (hS.p 12).cell rfl | exact (hS.p 13).cell rfl | exact (hS.p 14).cell rfl | exact (hS.p 15).cell rfl | exact (hS.p 16).cell rfl | exact (hS.p 17).cell rfl | exact (hS.p 18).cell rfl | exact (hS.p 19).cell rfl)) ?_; clear hA a; intro a hA
                          refine go1 hA rfl rfl rfl (r_lens (hA.ev rfl) T.un54) ?_; clear hA a; intro a hA
                          refine go1 hA rfl rfl rfl (as_f (r_neq (hA.ev rfl) (hA.ev rfl)) (by omega)) ?_; clear hA a; intro a hA
                          refine go1 hA rfl rfl rfl (r_move (hA.ev rfl)) ?_; clear hA a; intro a hA
                          refine go1y hA (wanted_yes hA rfl rfl rfl) rfl rfl (r_move (hA.ev rfl)) ?_; clear hA a; intro a hA
                          refine go1y hA (wanted_yes hA rfl rfl rfl) rfl rfl (r_load (hA.ev rfl) T.fl54 (by first | exact hS.cell rfl | exact (hS.p 1).cell rfl | exact (hS.p 2).cell rfl | exact (hS.p 3).cell rfl | exact (hS.p 4).cell rfl | exact (hS.p 5).cell rfl | exact (hS.p 6).cell rfl | exact (hS.p 7).cell rfl | exact (hS.p 8).cell rfl | exact (hS.p 9).cell rfl | exact (hS.p 10).cell rfl | exact (hS.p 11).cell rfl | exact (hS.p 12).cell rfl | exact (hS.p 13).cell rfl | exact (hS.p 14).cell rfl | exact (hS.p 15).cell rfl | exact (hS.p 16).cell rfl | exact (hS.p 17).cell rfl | exact (hS.p 18).cell rfl | exact (hS.p 19).cell rfl)) ?_; clear hA a; intro a hA
                          refine goFy hA (wanted_yes hA rfl rfl rfl) rfl T.en45 rfl (same_t (hS.p 11).rd (hS.p 5).rd rfl (by omega)) ?_
                          clear hA a; rintro e w ⟨rfl, hT⟩; replace hS : Sat _ _ _ := hS.rebase hT; clear hT
                          refine ⟨_, rfl, ?_⟩; intro a hA
                          refine go1by hA (wanted_yes hA rfl rfl rfl) rfl rfl (r_not (hA.ev rfl)) ?_ ?_
                          · clear hA a; intro h189 a hA
                            try simp only [decide_eq_decide, decide_eq_true_eq, decide_eq_false_iff_not, Bool.not_eq_true', Bool.not_eq_false', bne_iff_ne, ne_eq, beq_iff_eq, Bool.not_eq_true, Bool.not_eq_false] at h189
                            try (first | contradiction | (exfalso; omega) | (exfalso; simp at h189; done))
                            all_goals
                             skip
                             refine go1 hA rfl rfl rfl (r_pick_f (hA.ev rfl) (hA.ev rfl)) ?_; clear hA a; intro a hA
                             refine wpList_nil ?_
                             refine hk63 _ _ ?_
                             clear hk63 k63
                             refine wp_cond_true (hA.ev rfl) ?_
                             refine wp_seq_k fun k64 hk64 => ?_
                             refine wp_region_lit ?_
                             first | refine goW2 (cs' := [_]) hA rfl rfl T.fl4 T.sz4 rfl hS rfl rfl ?_ | refine goW2 (cs' := [_]) hA rfl rfl T.fl4 T.sz4 rfl (hS.p 1) rfl rfl ?_ | refine goW2 (cs' := [_]) hA rfl rfl T.fl4 T.sz4 rfl (hS.p 2) rfl rfl ?_ | refine goW2 (cs' := [_]) hA rfl rfl T.fl4 T.sz4 rfl (hS.p 3) rfl rfl ?_ | refine goW2 (cs' := [_]) hA rfl rfl T.fl4 T.sz4 rfl (hS.p 4) rfl rfl ?_ | refine goW2 (cs' := [_]) hA rfl rfl T.fl4 T.sz4 rfl (hS.p 5) rfl rfl ?_ | refine goW2 (cs' := [_]) hA rfl rfl T.fl4 T.sz4 rfl (hS.p 6) rfl rfl ?_ | refine goW2 (cs' := [_]) hA rfl rfl T.fl4 T.sz4 rfl (hS.p 7) rfl rfl ?_ | refine goW2 (cs' := [_]) hA rfl rfl T.fl4 T.sz4 rfl (hS.p 8) rfl rfl ?_ | refine goW2 (cs' := [_]) hA rfl rfl T.fl4 T.sz4 rfl (hS.p 9) rfl rfl ?_ | refine goW2 (cs' := [_]) hA rfl rfl T.fl4 T.sz4 rfl (hS.p 10) rfl rfl ?_ | refine goW2 (cs' := [_]) hA rfl rfl T.fl4 T.sz4 rfl (hS.p 11) rfl rfl ?_ | refine goW2 (cs' := [_]) hA rfl rfl T.fl4 T.sz4 rfl (hS.p 12) rfl rfl ?_ | refine goW2 (cs' := [_]) hA rfl rfl T.fl4 T.sz4 rfl (hS.p 13) rfl rfl ?_ | refine goW2 (cs' := [_]) hA rfl rfl T.fl4 T.sz4 rfl (hS.p 14) rfl rfl ?_ | refine goW2 (cs' := [_]) hA rfl rfl T.fl4 T.sz4 rfl (hS.p 15) rfl rfl ?_ | refine goW2 (cs' := [_]) hA rfl rfl T.fl4 T.sz4 rfl (hS.p 16) rfl rfl ?_ | refine goW2 (cs' := [_]) hA rfl rfl T.fl4 T.sz4 rfl (hS.p 17) rfl rfl ?_ | refine goW2 (cs' := [_]) hA rfl rfl T.fl4 T.sz4 rfl (hS.p 18) rfl rfl ?_ | refine goW2 (cs' := [_]) hA rfl rfl T.fl4 T.sz4 rfl (hS.p 19) rfl rfl ?_
                             clear hS; intro w hS
                             refine wpList_nil ?_
                             refine hk64 _ _ ?_
                             clear hk64 k64
                             refine wp_ret ?_
                             refine then_ret ?_; clear hk62 k62
                             refine block_ret ?_
                             refine then_ret ?_; clear hk17 k17
                             refine then_ret ?_
                             refine block_ret ?_
                             refine then_ret ?_; clear hk13 k13
                             exact endMC (Ds := Ds) hA rfl rfl T.fl4 (hS.p 1) (fun w' hS => hS.cell rfl) (fun w' hS => ⟨rfl, hS.nil⟩)
                          · clear hA a; intro h189 a hA
                            try simp only [decide_eq_decide, decide_eq_true_eq, decide_eq_false_iff_not, Bool.not_eq_true', Bool.not_eq_false', bne_iff_ne, ne_eq, beq_iff_eq, Bool.not_eq_true, Bool.not_eq_false] at h189
                            try (first | contradiction | (exfalso; omega) | (exfalso; simp at h189; done))
                            all_goals
                             skip
                             refine go1 hA rfl rfl rfl (r_pick_f (hA.ev rfl) (hA.ev rfl)) ?_; clear hA a; intro a hA
                             refine wpList_nil ?_
                             refine hk63 _ _ ?_
                             clear hk63 k63
                             refine wp_cond_false (hA.ev rfl) ?_
                             refine wp_skip ?_
                             refine hk62 _ _ ?_
                             clear hk62 k62
                             refine wp_seq_k fun k65 hk65 => ?_
                             refine wp_seq_k fun k66 hk66 => ?_
                             refine wp_region_lit ?_
                             refine go1 hA rfl rfl rfl (r_assign (hA.ev rfl)) ?_; clear hA a; intro a hA
                             refine wpList_nil ?_
                             refine hk66 _ _ ?_
                             clear hk66 k66
                             refine wp_block ?_
                             refine wp_loop_ghost (fun (mm : Nat) a w => ∃ (t kk : Int) (Ds3 : List Nat), Ag a 234 [(1, .pointer (some ⟨b1, 0, none⟩)), (2, .pointer (some ⟨b2, 0, none⟩)), (3, .pointer (some ⟨l, 0, none⟩)), (4, .func (.func 71) #[] #[.pointer (some ⟨Bo, 0, none⟩), .pointer (some ⟨Ao, 0, none⟩)]), (5, .int .i64 fr), (6, .slice pw ws.length cw), (7, .int .i64 i), (9, .pointer (some ⟨b9, 0, none⟩)), (11, .pointer (some ⟨b11, 0, none⟩)), (15, .pointer (some ⟨b15, 0, none⟩)), (18, .pointer (some ⟨b18, 0, none⟩)), (24, .int .i64 t)] (Ds3.map K.mark) ∧ Sat W w [stars (Ds3.map mblock), pto b18 (.cells #[.int .i64 kk] 3), pto Bs (.cells #[.slice ps ys.length cs] 54), row 3 1 (.slice ps ys.length cs) ys.length (ys.map (Value.int .i64)), pto As (.cells #[.int .i64 (s + (g : Int))] 3), pto b9 (.cells #[.int .i64 (s + (g : Int))] 3), pto b11 (.cells #[.slice ph ys.length ch] 54), row 3 1 (.slice ph ys.length ch) ys.length (ys.map (Value.int .i64)), pto b15 (.cells #[.func (.func 71) #[] #[.pointer (some ⟨Bs, 0, none⟩), .pointer (some ⟨As, 0, none⟩)]] 87), pto Bo (.cells #[.slice po ws.length co] 54), row 3 1 (.slice po ws.length co) ws.length (ws.map (Value.int .i64)), pto Ao (.cells #[.int .i64 fr] 3), row 3 1 (.slice pw ws.length cw) ws.length (ws.map (Value.int .i64)), pto l (.cells #[.int .i64 M, .int .i64 (s + ((g2 : Nat) : Int)), .slice Al2 ((xs2).length - g2) cl2] 103), row 3 1 (.slice Al2 ((xs2).length - g2) cl2) ((xs2).length - g2) (((xs2).drop g2).map (Value.int .i64)), pto b1 (.cells #[.int .i64 m1, .int .i64 s1, .int .i64 m2, .int .i64 s2, .slice (some A') ops.length c] 28), pto b2 (.cells #[.bool false] 4)] ∧ 0 ≤ t ∧ t ≤ 3 ∧ mm = (3 - t).toNat) 3 ?_ ?_
                             · replace hA := hA.keep (.cons (i := 1) rfl (.cons (i := 2) rfl (.cons (i := 3) rfl (.cons (i := 4) rfl (.cons (i := 5) rfl (.cons (i := 6) rfl (.cons (i := 7) rfl (.cons (i := 9) rfl (.cons (i := 11) rfl (.cons (i := 15) rfl (.cons (i := 18) rfl (.cons (i := 24) rfl .nil))))))))))))
                               exact ⟨0, _, D :: Ds, hA, ((((((((((((((((((((more_stars (((hS.p 13).p 9))).p 14).p 14).p 12).p 12).p 18).p 18).p 18).p 18).p 15).p 15).p 15).p 15).p 15).p 15).p 15).p 16).p 16).p 18).p 18).drop.drop, by omega, by omega, by omega⟩
                             intro m a w hI
                             clear hS; obtain ⟨t, kk, Ds3, hA, hS, ht0, ht3, rfl⟩ := hI
                             refine wp_seq_k fun k67 hk67 => ?_
                             refine wp_seq_k fun k68 hk68 => ?_
                             refine wp_region_lit ?_
                             refine go1 hA rfl rfl rfl (r_move (hA.ev rfl)) ?_; clear hA a; intro a hA
                             refine go1s hA rfl rfl rfl (r_lss (hA.ev rfl) (hA.ev rfl)) ?_ ?_
                             · clear hA a; intro h192 a hA
                               try (first | contradiction | (exfalso; omega) | (exfalso; simp at h192; done))
                               all_goals
                                skip
                                refine wpList_nil ?_
                                refine hk68 _ _ ?_
                                clear hk68 k68
                                refine wp_cond_true (hA.ev rfl) ?_
                                refine wp_skip ?_
                                refine hk67 _ _ ?_
                                clear hk67 k67
                                refine wp_seq_k fun k69 hk69 => ?_
                                refine wp_block ?_
                                refine wp_seq_k fun k70 hk70 => ?_
                                refine wp_region_lit ?_
                                refine go1 hA rfl rfl rfl (r_move (hA.ev rfl)) ?_; clear hA a; intro a hA
                                refine go1 hA rfl rfl rfl (r_move (hA.ev rfl)) ?_; clear hA a; intro a hA
                                refine go1 hA rfl rfl rfl (r_move (hA.ev rfl)) ?_; clear hA a; intro a hA
                                refine goN hA rfl T.zv3 hS ?_
                                clear hA a hS; intro b26 w hS a hA
                                refine goN hA rfl T.zv54 hS ?_
                                clear hA a hS; intro b27 w hS a hA
                                refine go1 hA rfl rfl rfl (r_assign (hA.ev rfl)) ?_; clear hA a; intro a hA
                                first | refine goW2 (cs' := [_]) hA rfl rfl T.fl3 T.sz3 rfl hS rfl rfl ?_ | refine goW2 (cs' := [_]) hA rfl rfl T.fl3 T.sz3 rfl (hS.p 1) rfl rfl ?_ | refine goW2 (cs' := [_]) hA rfl rfl T.fl3 T.sz3 rfl (hS.p 2) rfl rfl ?_ | refine goW2 (cs' := [_]) hA rfl rfl T.fl3 T.sz3 rfl (hS.p 3) rfl rfl ?_ | refine goW2 (cs' := [_]) hA rfl rfl T.fl3 T.sz3 rfl (hS.p 4) rfl rfl ?_ | refine goW2 (cs' := [_]) hA rfl rfl T.fl3 T.sz3 rfl (hS.p 5) rfl rfl ?_ | refine goW2 (cs' := [_]) hA rfl rfl T.fl3 T.sz3 rfl (hS.p 6) rfl rfl ?_ | refine goW2 (cs' := [_]) hA rfl rfl T.fl3 T.sz3 rfl (hS.p 7) rfl rfl ?_ | refine goW2 (cs' := [_]) hA rfl rfl T.fl3 T.sz3 rfl (hS.p 8) rfl rfl ?_ | refine goW2 (cs' := [_]) hA rfl rfl T.fl3 T.sz3 rfl (hS.p 9) rfl rfl ?_ | refine goW2 (cs' := [_]) hA rfl rfl T.fl3 T.sz3 rfl (hS.p 10) rfl rfl ?_ | refine goW2 (cs' := [_]) hA rfl rfl T.fl3 T.sz3 rfl (hS.p 11) rfl rfl ?_ | refine goW2 (cs' := [_]) hA rfl rfl T.fl3 T.sz3 rfl (hS.p 12) rfl rfl ?_ | refine goW2 (cs' := [_]) hA rfl rfl T.fl3 T.sz3 rfl (hS.p 13) rfl rfl ?_ | refine goW2 (cs' := [_]) hA rfl rfl T.fl3 T.sz3 rfl (hS.p 14) rfl rfl ?_ | refine goW2 (cs' := [_]) hA rfl rfl T.fl3 T.sz3 rfl (hS.p 15) rfl rfl ?_ | refine goW2 (cs' := [_]) hA rfl rfl T.fl3 T.sz3 rfl (hS.p 16) rfl rfl ?_ | refine goW2 (cs' := [_]) hA rfl rfl T.fl3 T.sz3 rfl (hS.p 17) rfl rfl ?_ | refine goW2 (cs' := [_]) hA rfl rfl T.fl3 T.sz3 rfl (hS.p 18) rfl rfl ?_ | refine goW2 (cs' := [_]) hA rfl rfl T.fl3 T.sz3 rfl (hS.p 19) rfl rfl ?_
                                clear hS; intro w hS
                                first | refine goW2 (cs' := [_]) hA rfl rfl T.fl54 T.sz54 rfl hS rfl rfl ?_ | refine goW2 (cs' := [_]) hA rfl rfl T.fl54 T.sz54 rfl (hS.p 1) rfl rfl ?_ | refine goW2 (cs' := [_]) hA rfl rfl T.fl54 T.sz54 rfl (hS.p 2) rfl rfl ?_ | refine goW2 (cs' := [_]) hA rfl rfl T.fl54 T.sz54 rfl (hS.p 3) rfl rfl ?_ | refine goW2 (cs' := [_]) hA rfl rfl T.fl54 T.sz54 rfl (hS.p 4) rfl rfl ?_ | refine goW2 (cs' := [_]) hA rfl rfl T.fl54 T.sz54 rfl (hS.p 5) rfl rfl ?_ | refine goW2 (cs' := [_]) hA rfl rfl T.fl54 T.sz54 rfl (hS.p 6) rfl rfl ?_ | refine goW2 (cs' := [_]) hA rfl rfl T.fl54 T.sz54 rfl (hS.p 7) rfl rfl ?_ | refine goW2 (cs' := [_]) hA rfl rfl T.fl54 T.sz54 rfl (hS.p 8) rfl rfl ?_ | refine goW2 (cs' := [_]) hA rfl rfl T.fl54 T.sz54 rfl (hS.p 9) rfl rfl ?_ | refine goW2 (cs' := [_]) hA rfl rfl T.fl54 T.sz54 rfl (hS.p 10) rfl rfl ?_ | refine goW2 (cs' := [_]) hA rfl rfl T.fl54 T.sz54 rfl (hS.p 11) rfl rfl ?_ | refine goW2 (cs' := [_]) hA rfl rfl T.fl54 T.sz54 rfl (hS.p 12) rfl rfl ?_ | refine goW2 (cs' := [_]) hA rfl rfl T.fl54 T.sz54 rfl (hS.p 13) rfl rfl ?_ | refine goW2 (cs' := [_]) hA rfl rfl T.fl54 T.sz54 rfl (hS.p 14) rfl rfl ?_ | refine goW2 (cs' := [_]) hA rfl rfl T.fl54 T.sz54 rfl (hS.p 15) rfl rfl ?_ | refine goW2 (cs' := [_]) hA rfl rfl T.fl54 T.sz54 rfl (hS.p 16) rfl rfl ?_ | refine goW2 (cs' := [_]) hA rfl rfl T.fl54 T.sz54 rfl (hS.p 17) rfl rfl ?_ | refine goW2 (cs' := [_]) hA rfl rfl T.fl54 T.sz54 rfl (hS.p 18) rfl rfl ?_ | refine goW2 (cs' := [_]) hA rfl rfl T.fl54 T.sz54 rfl (hS.p 19) rfl rfl ?_
                                clear hS; intro w hS
                                refine wpList_nil ?_
                                refine hk70 _ _ ?_
                                clear hk70 k70
                                refine wp_seq_k fun k71 hk71 => ?_
                                refine wp_seq_k fun k72 hk72 => ?_
                                refine wp_region_lit ?_
                                refine go1 hA rfl rfl rfl (r_move (hA.ev rfl)) ?_; clear hA a; intro a hA
                                refine go1s hA rfl rfl rfl (r_eql (hA.ev rfl) (hA.ev rfl)) ?_ ?_
                                · clear hA a; intro h199 a hA
                                  try (first | contradiction | (exfalso; omega) | (exfalso; simp at h199; done))
                                  all_goals
                                   skip
                                   refine wpList_nil ?_
                                   refine hk72 _ _ ?_
                                   clear hk72 k72
                                   refine wp_cond_true (hA.ev rfl) ?_
                                   refine wp_nop ?_
                                   refine xEnter [] (fun w' => ∃ M : List K.As, Sat W w' (pto b15 (.cells #[.func (.func 71) #[] #[.pointer (some ⟨Bs, 0, none⟩), .pointer (some ⟨As, 0, none⟩)]] 87) :: pto b9 (.cells #[.int .i64 (s + (g : Int))] 3) :: pto b11 (.cells #[.slice ph ys.length ch] 54) :: M)) (by kernel_rfl) ?_
                                   replace hS := hS.drew
                                   refine K.x1 0 hA pok_nop rfl rfl rfl rfl (by kernel_rfl) (by kernel_rfl) (by kernel_rfl) (by kernel_rfl) (by kernel_rfl) (⟨_, (((hS.p 8).p 8).p 10)⟩) (fun w hT => let ⟨M, hM⟩ := hT; have hS := hM; (r_load (hA.ev rfl) T.fl87 (by first | exact hS.cell rfl | exact (hS.p 1).cell rfl | exact (hS.p 2).cell rfl | exact (hS.p 3).cell rfl | exact (hS.p 4).cell rfl | exact (hS.p 5).cell rfl | exact (hS.p 6).cell rfl | exact (hS.p 7).cell rfl | exact (hS.p 8).cell rfl | exact (hS.p 9).cell rfl | exact (hS.p 10).cell rfl | exact (hS.p 11).cell rfl | exact (hS.p 12).cell rfl | exact (hS.p 13).cell rfl | exact (hS.p 14).cell rfl | exact (hS.p 15).cell rfl | exact (hS.p 16).cell rfl | exact (hS.p 17).cell rfl | exact (hS.p 18).cell rfl | exact (hS.p 19).cell rfl))) ?_; clear hA a; intro a hA
                                   refine K.x1 1 hA pok_nop rfl rfl rfl rfl (by kernel_rfl) (by kernel_rfl) (by kernel_rfl) (by kernel_rfl) (by kernel_rfl) (⟨_, (((hS.p 8).p 8).p 10)⟩) (fun w hT => let ⟨M, hM⟩ := hT; have hS := hM; (r_load (hA.ev rfl) T.fl3 (by first | exact hS.cell rfl | exact (hS.p 1).cell rfl | exact (hS.p 2).cell rfl | exact (hS.p 3).cell rfl | exact (hS.p 4).cell rfl | exact (hS.p 5).cell rfl | exact (hS.p 6).cell rfl | exact (hS.p 7).cell rfl | exact (hS.p 8).cell rfl | exact (hS.p 9).cell rfl | exact (hS.p 10).cell rfl | exact (hS.p 11).cell rfl | exact (hS.p 12).cell rfl | exact (hS.p 13).cell rfl | exact (hS.p 14).cell rfl | exact (hS.p 15).cell rfl | exact (hS.p 16).cell rfl | exact (hS.p 17).cell rfl | exact (hS.p 18).cell rfl | exact (hS.p 19).cell rfl))) ?_; clear hA a; intro a hA
                                   refine K.x1 2 hA pok_nop rfl rfl rfl rfl (by kernel_rfl) (by kernel_rfl) (by kernel_rfl) (by kernel_rfl) (by kernel_rfl) (⟨_, (((hS.p 8).p 8).p 10)⟩) (fun w hT => let ⟨M, hM⟩ := hT; have hS := hM; (r_load (hA.ev rfl) T.fl54 (by first | exact hS.cell rfl | exact (hS.p 1).cell rfl | exact (hS.p 2).cell rfl | exact (hS.p 3).cell rfl | exact (hS.p 4).cell rfl | exact (hS.p 5).cell rfl | exact (hS.p 6).cell rfl | exact (hS.p 7).cell rfl | exact (hS.p 8).cell rfl | exact (hS.p 9).cell rfl | exact (hS.p 10).cell rfl | exact (hS.p 11).cell rfl | exact (hS.p 12).cell rfl | exact (hS.p 13).cell rfl | exact (hS.p 14).cell rfl | exact (hS.p 15).cell rfl | exact (hS.p 16).cell rfl | exact (hS.p 17).cell rfl | exact (hS.p 18).cell rfl | exact (hS.p 19).cell rfl))) ?_; clear hA a; intro a hA
                                   refine K.p1 3 hA pok_nop rfl rfl rfl rfl (by kernel_rfl) (by kernel_rfl) (by kernel_rfl) (fun w => (r_assign (hA.ev rfl))) ?_; clear hA a; intro a hA
                                   refine xOne 4 (by kernel_rfl) ?_
                                   first | refine eW2 (cs' := [_]) hA rfl rfl rfl T.fl3 T.sz3 rfl hS rfl rfl ?_ | refine eW2 (cs' := [_]) hA rfl rfl rfl T.fl3 T.sz3 rfl (hS.p 1) rfl rfl ?_ | refine eW2 (cs' := [_]) hA rfl rfl rfl T.fl3 T.sz3 rfl (hS.p 2) rfl rfl ?_ | refine eW2 (cs' := [_]) hA rfl rfl rfl T.fl3 T.sz3 rfl (hS.p 3) rfl rfl ?_ | refine eW2 (cs' := [_]) hA rfl rfl rfl T.fl3 T.sz3 rfl (hS.p 4) rfl rfl ?_ | refine eW2 (cs' := [_]) hA rfl rfl rfl T.fl3 T.sz3 rfl (hS.p 5) rfl rfl ?_ | refine eW2 (cs' := [_]) hA rfl rfl rfl T.fl3 T.sz3 rfl (hS.p 6) rfl rfl ?_ | refine eW2 (cs' := [_]) hA rfl rfl rfl T.fl3 T.sz3 rfl (hS.p 7) rfl rfl ?_ | refine eW2 (cs' := [_]) hA rfl rfl rfl T.fl3 T.sz3 rfl (hS.p 8) rfl rfl ?_ | refine eW2 (cs' := [_]) hA rfl rfl rfl T.fl3 T.sz3 rfl (hS.p 9) rfl rfl ?_ | refine eW2 (cs' := [_]) hA rfl rfl rfl T.fl3 T.sz3 rfl (hS.p 10) rfl rfl ?_ | refine eW2 (cs' := [_]) hA rfl rfl rfl T.fl3 T.sz3 rfl (hS.p 11) rfl rfl ?_ | refine eW2 (cs' := [_]) hA rfl rfl rfl T.fl3 T.sz3 rfl (hS.p 12) rfl rfl ?_ | refine eW2 (cs' := [_]) hA rfl rfl rfl T.fl3 T.sz3 rfl (hS.p 13) rfl rfl ?_ | refine eW2 (cs' := [_]) hA rfl rfl rfl T.fl3 T.sz3 rfl (hS.p 14) rfl rfl ?_ | refine eW2 (cs' := [_]) hA rfl rfl rfl T.fl3 T.sz3 rfl (hS.p 15) rfl rfl ?_ | refine eW2 (cs' := [_]) hA rfl rfl rfl T.fl3 T.sz3 rfl (hS.p 16) rfl rfl ?_ | refine eW2 (cs' := [_]) hA rfl rfl rfl T.fl3 T.sz3 rfl (hS.p 17) rfl rfl ?_ | refine eW2 (cs' := [_]) hA rfl rfl rfl T.fl3 T.sz3 rfl (hS.p 18) rfl rfl ?_ | refine eW2 (cs' := [_]) hA rfl rfl rfl T.fl3 T.sz3 rfl (hS.p 19) rfl rfl ?_
                                   clear hS; intro w hS
                                   refine ⟨.inr fun _ => (⟨_, (((hS.p 8).p 8).p 10)⟩), ?_⟩
                                   refine xOne 5 (by kernel_rfl) ?_
                                   first | refine eW2 (cs' := [_]) hA rfl rfl rfl T.fl54 T.sz54 rfl hS rfl rfl ?_ | refine eW2 (cs' := [_]) hA rfl rfl rfl T.fl54 T.sz54 rfl (hS.p 1) rfl rfl ?_ | refine eW2 (cs' := [_]) hA rfl rfl rfl T.fl54 T.sz54 rfl (hS.p 2) rfl rfl ?_ | refine eW2 (cs' := [_]) hA rfl rfl rfl T.fl54 T.sz54 rfl (hS.p 3) rfl rfl ?_ | refine eW2 (cs' := [_]) hA rfl rfl rfl T.fl54 T.sz54 rfl (hS.p 4) rfl rfl ?_ | refine eW2 (cs' := [_]) hA rfl rfl rfl T.fl54 T.sz54 rfl (hS.p 5) rfl rfl ?_ | refine eW2 (cs' := [_]) hA rfl rfl rfl T.fl54 T.sz54 rfl (hS.p 6) rfl rfl ?_ | refine eW2 (cs' := [_]) hA rfl rfl rfl T.fl54 T.sz54 rfl (hS.p 7) rfl rfl ?_ | refine eW2 (cs' := [_]) hA rfl rfl rfl T.fl54 T.sz54 rfl (hS.p 8) rfl rfl ?_ | refine eW2 (cs' := [_]) hA rfl rfl rfl T.fl54 T.sz54 rfl (hS.p 9) rfl rfl ?_ | refine eW2 (cs' := [_]) hA rfl rfl rfl T.fl54 T.sz54 rfl (hS.p 10) rfl rfl ?_ | refine eW2 (cs' := [_]) hA rfl rfl rfl T.fl54 T.sz54 rfl (hS.p 11) rfl rfl ?_ | refine eW2 (cs' := [_]) hA rfl rfl rfl T.fl54 T.sz54 rfl (hS.p 12) rfl rfl ?_ | refine eW2 (cs' := [_]) hA rfl rfl rfl T.fl54 T.sz54 rfl (hS.p 13) rfl rfl ?_ | refine eW2 (cs' := [_]) hA rfl rfl rfl T.fl54 T.sz54 rfl (hS.p 14) rfl rfl ?_ | refine eW2 (cs' := [_]) hA rfl rfl rfl T.fl54 T.sz54 rfl (hS.p 15) rfl rfl ?_ | refine eW2 (cs' := [_]) hA rfl rfl rfl T.fl54 T.sz54 rfl (hS.p 16) rfl rfl ?_ | refine eW2 (cs' := [_]) hA rfl rfl rfl T.fl54 T.sz54 rfl (hS.p 17) rfl rfl ?_ | refine eW2 (cs' := [_]) hA rfl rfl rfl T.fl54 T.sz54 rfl (hS.p 18) rfl rfl ?_ | refine eW2 (cs' := [_]) hA rfl rfl rfl T.fl54 T.sz54 rfl (hS.p 19) rfl rfl ?_
                                   clear hS; intro w hS
                                   refine ⟨.inr fun _ => (⟨_, (((hS.p 8).p 8).p 10)⟩), ?_⟩
                                   refine wpAnyX_done (by kernel_rfl) ?_ _
                                   refine hk71 _ _ ?_
                                   clear hk71 k71
                                   refine wp_seq_k fun k73 hk73 => ?_
                                   refine wp_region_lit ?_
                                   first | refine goW2 (cs' := [_]) hA rfl rfl T.fl3 T.sz3 rfl hS rfl rfl ?_ | refine goW2 (cs' := [_]) hA rfl rfl T.fl3 T.sz3 rfl (hS.p 1) rfl rfl ?_ | refine goW2 (cs' := [_]) hA rfl rfl T.fl3 T.sz3 rfl (hS.p 2) rfl rfl ?_ | refine goW2 (cs' := [_]) hA rfl rfl T.fl3 T.sz3 rfl (hS.p 3) rfl rfl ?_ | refine goW2 (cs' := [_]) hA rfl rfl T.fl3 T.sz3 rfl (hS.p 4) rfl rfl ?_ | refine goW2 (cs' := [_]) hA rfl rfl T.fl3 T.sz3 rfl (hS.p 5) rfl rfl ?_ | refine goW2 (cs' := [_]) hA rfl rfl T.fl3 T.sz3 rfl (hS.p 6) rfl rfl ?_ | refine goW2 (cs' := [_]) hA rfl rfl T.fl3 T.sz3 rfl (hS.p 7) rfl rfl ?_ | refine goW2 (cs' := [_]) hA rfl rfl T.fl3 T.sz3 rfl (hS.p 8) rfl rfl ?_ | refine goW2 (cs' := [_]) hA rfl rfl T.fl3 T.sz3 rfl (hS.p 9) rfl rfl ?_ | refine goW2 (cs' := [_]) hA rfl rfl T.fl3 T.sz3 rfl (hS.p 10) rfl rfl ?_ | refine goW2 (cs' := [_]) hA rfl rfl T.fl3 T.sz3 rfl (hS.p 11) rfl rfl ?_ | refine goW2 (cs' := [_]) hA rfl rfl T.fl3 T.sz3 rfl (hS.p 12) rfl rfl ?_ | refine goW2 (cs' := [_]) hA rfl rfl T.fl3 T.sz3 rfl (hS.p 13) rfl rfl ?_ | refine goW2 (cs' := [_]) hA rfl rfl T.fl3 T.sz3 rfl (hS.p 14) rfl rfl ?_ | refine goW2 (cs' := [_]) hA rfl rfl T.fl3 T.sz3 rfl (hS.p 15) rfl rfl ?_ | refine goW2 (cs' := [_]) hA rfl rfl T.fl3 T.sz3 rfl (hS.p 16) rfl rfl ?_ | refine goW2 (cs' := [_]) hA rfl rfl T.fl3 T.sz3 rfl (hS.p 17) rfl rfl ?_ | refine goW2 (cs' := [_]) hA rfl rfl T.fl3 T.sz3 rfl (hS.p 18) rfl rfl ?_ | refine goW2 (cs' := [_]) hA rfl rfl T.fl3 T.sz3 rfl (hS.p 19) rfl rfl ?_
                                   clear hS; intro w hS
                                   refine wpList_nil ?_
                                   refine hk73 _ _ ?_
                                   clear hk73 k73
                                   refine wp_seq_k fun k74 hk74 => ?_
                                   refine wp_seq_k fun k75 hk75 => ?_
                                   refine wp_region_lit ?_
                                   refine go1 hA rfl rfl rfl (r_move (hA.ev rfl)) ?_; clear hA a; intro a hA
                                   refine wpList_nil ?_
                                   refine hk75 _ _ ?_
                                   clear hk75 k75
                                   refine wp_block ?_
                                   refine wp_range (xs := wks (s + (g : Int)) ys) (wzX Bs As b26 b27 b18 (s + (g : Int)) ps ph cs ch ys) (fun _ _ => False) (hA.ev rfl) (fun _ _ => run_callFunc (by kernel_rfl)) (Walk1_iter (p := ps) (c := cs) (by omega) (by omega) (by omega)) ?_ ?_ ((show Sat W w (wzX Bs As b26 b27 b18 (s + (g : Int)) ps ph cs ch ys 0 :: _) from tostars (M := [_, _, _, _, _, _, _]) (((((((hS.p 9).p 2).p 3).p 7).p 7).p 7)))) ?_ ?_ ?_
                                   · intro x hx; obtain ⟨k, hk⟩ := List.mem_iff_getElem?.1 hx; obtain ⟨y, _, rfl⟩ := wks_of hk; rfl
                                   · exact fun k w' M h => wzX_cap h
                                   · skip
                                     intro r k x L' w hx hS
                                     obtain ⟨y, hyx, rfl⟩ := wks_of hx; have hkl := (List.getElem?_eq_some_iff.1 hyx).1; replace hS := unstars hS; obtain ⟨q_p, rfl⟩ : ∃ q, ph = some q := (hS.p 5).rd.hasAddr (by omega)
                                     have hA := ag_round2 hA (p := 204) (q := 205) rfl rfl (.int .i64 ((s + (g : Int)) + (k : Int))) (.int .i64 y)
                                     revert hA
                                     generalize ({ tmps := _, defers := [] } : Act) = a
                                     intro hA
                                     refine wpIn_seq_k fun k76 hk76 => ?_
                                     refine region_in (open_round _) (fun ⟨_, _, hq⟩ => False.elim hq) rfl ?_
                                     refine go1 hA rfl rfl rfl (r_assign (hA.ev rfl)) ?_; clear hA a; intro a hA
                                     refine wpList_nil ?_
                                     refine hk76 _ _ ?_
                                     clear hk76 k76
                                     refine region_in (open_round _) (fun ⟨_, _, hq⟩ => False.elim hq) rfl ?_
                                     refine go1 hA rfl rfl rfl (r_assign (hA.ev rfl)) ?_; clear hA a; intro a hA
                                     refine wpList_nil ?_
                                     refine ⟨stars [_, _, _, _, _, _, _], tostars (M := [_, _, _, _, _, _, _]) hS, fun L2 w hS => ?_⟩
                                     replace hS := unstars hS
                                     refine wpIn_block ?_
                                     refine wpIn_seq_k fun k77 hk77 => ?_
                                     refine wpIn_seq_k fun k78 hk78 => ?_
                                     refine region_in (open_round _) (fun ⟨_, _, hq⟩ => False.elim hq) rfl ?_
                                     refine go1 hA rfl rfl rfl (r_load (hA.ev rfl) T.fl3 (by first | exact hS.cell rfl | exact (hS.p 1).cell rfl | exact (hS.p 2).cell rfl | exact (hS.p 3).cell rfl | exact (hS.p 4).cell rfl | exact (hS.p 5).cell rfl | exact (hS.p 6).cell rfl | exact (hS.p 7).cell rfl | exact (hS.p 8).cell rfl | exact (hS.p 9).cell rfl | exact (hS.p 10).cell rfl | exact (hS.p 11).cell rfl | exact (hS.p 12).cell rfl | exact (hS.p 13).cell rfl | exact (hS.p 14).cell rfl | exact (hS.p 15).cell rfl | exact (hS.p 16).cell rfl | exact (hS.p 17).cell rfl | exact (hS.p 18).cell rfl | exact (hS.p 19).cell rfl)) ?_; clear hA a; intro a hA
                                     refine go1 hA rfl rfl rfl (r_load (hA.ev rfl) T.fl54 (by first | exact hS.cell rfl | exact (hS.p 1).cell rfl | exact (hS.p 2).cell rfl | exact (hS.p 3).cell rfl | exact (hS.p 4).cell rfl | exact (hS.p 5).cell rfl | exact (hS.p 6).cell rfl | exact (hS.p 7).cell rfl | exact (hS.p 8).cell rfl | exact (hS.p 9).cell rfl | exact (hS.p 10).cell rfl | exact (hS.p 11).cell rfl | exact (hS.p 12).cell rfl | exact (hS.p 13).cell rfl | exact (hS.p 14).cell rfl | exact (hS.p 15).cell rfl | exact (hS.p 16).cell rfl | exact (hS.p 17).cell rfl | exact (hS.p 18).cell rfl | exact (hS.p 19).cell rfl)) ?_; clear hA a; intro a hA
                                     refine go1 hA rfl rfl rfl (r_lens (hA.ev rfl) T.un54) ?_; clear hA a; intro a hA
                                     refine go1 hA rfl rfl rfl (as_f (r_geq (hA.ev rfl) (hA.ev rfl)) (by omega)) ?_; clear hA a; intro a hA
                                     refine go1 hA rfl rfl rfl (r_move (hA.ev rfl)) ?_; clear hA a; intro a hA
                                     refine go1y hA (wanted_yes hA rfl rfl rfl) rfl rfl (r_move (hA.ev rfl)) ?_; clear hA a; intro a hA
                                     refine go1y hA (wanted_yes hA rfl rfl rfl) rfl rfl (r_load (hA.ev rfl) T.fl3 (by first | exact hS.cell rfl | exact (hS.p 1).cell rfl | exact (hS.p 2).cell rfl | exact (hS.p 3).cell rfl | exact (hS.p 4).cell rfl | exact (hS.p 5).cell rfl | exact (hS.p 6).cell rfl | exact (hS.p 7).cell rfl | exact (hS.p 8).cell rfl | exact (hS.p 9).cell rfl | exact (hS.p 10).cell rfl | exact (hS.p 11).cell rfl | exact (hS.p 12).cell rfl | exact (hS.p 13).cell rfl | exact (hS.p 14).cell rfl | exact (hS.p 15).cell rfl | exact (hS.p 16).cell rfl | exact (hS.p 17).cell rfl | exact (hS.p 18).cell rfl | exact (hS.p 19).cell rfl)) ?_; clear hA a; intro a hA
                                     refine go1y hA (wanted_yes hA rfl rfl rfl) rfl rfl (r_load (hA.ev rfl) T.fl3 (by first | exact hS.cell rfl | exact (hS.p 1).cell rfl | exact (hS.p 2).cell rfl | exact (hS.p 3).cell rfl | exact (hS.p 4).cell rfl | exact (hS.p 5).cell rfl | exact (hS.p 6).cell rfl | exact (hS.p 7).cell rfl | exact (hS.p 8).cell rfl | exact (hS.p 9).cell rfl | exact (hS.p 10).cell rfl | exact (hS.p 11).cell rfl | exact (hS.p 12).cell rfl | exact (hS.p 13).cell rfl | exact (hS.p 14).cell rfl | exact (hS.p 15).cell rfl | exact (hS.p 16).cell rfl | exact (hS.p 17).cell rfl | exact (hS.p 18).cell rfl | exact (hS.p 19).cell rfl)) ?_; clear hA a; intro a hA
                                     refine go1y hA (wanted_yes hA rfl rfl rfl) rfl rfl (r_add64 (hA.ev rfl) (hA.ev rfl) (by omega) (by omega)) ?_; clear hA a; intro a hA
                                     refine go1y hA (wanted_yes hA rfl rfl rfl) rfl rfl (as_f (r_neq (hA.ev rfl) (hA.ev rfl)) (by omega)) ?_; clear hA a; intro a hA
                                     refine go1 hA rfl rfl rfl (r_pick_f (hA.ev rfl) (hA.ev rfl)) ?_; clear hA a; intro a hA
                                     refine go1 hA rfl rfl rfl (r_move (hA.ev rfl)) ?_; clear hA a; intro a hA
                                     refine go1y hA (wanted_yes hA rfl rfl rfl) rfl rfl (r_move (hA.ev rfl)) ?_; clear hA a; intro a hA
                                     refine go1y hA (wanted_yes hA rfl rfl rfl) rfl rfl (r_load (hA.ev rfl) T.fl54 (by first | exact hS.cell rfl | exact (hS.p 1).cell rfl | exact (hS.p 2).cell rfl | exact (hS.p 3).cell rfl | exact (hS.p 4).cell rfl | exact (hS.p 5).cell rfl | exact (hS.p 6).cell rfl | exact (hS.p 7).cell rfl | exact (hS.p 8).cell rfl | exact (hS.p 9).cell rfl | exact (hS.p 10).cell rfl | exact (hS.p 11).cell rfl | exact (hS.p 12).cell rfl | exact (hS.p 13).cell rfl | exact (hS.p 14).cell rfl | exact (hS.p 15).cell rfl | exact (hS.p 16).cell rfl | exact (hS.p 17).cell rfl | exact (hS.p 18).cell rfl | exact (hS.p 19).cell rfl)) ?_; clear hA a; intro a hA
                                     refine go1y hA (wanted_yes hA rfl rfl rfl) rfl rfl (r_load (hA.ev rfl) T.fl3 (by first | exact hS.cell rfl | exact (hS.p 1).cell rfl | exact (hS.p 2).cell rfl | exact (hS.p 3).cell rfl | exact (hS.p 4).cell rfl | exact (hS.p 5).cell rfl | exact (hS.p 6).cell rfl | exact (hS.p 7).cell rfl | exact (hS.p 8).cell rfl | exact (hS.p 9).cell rfl | exact (hS.p 10).cell rfl | exact (hS.p 11).cell rfl | exact (hS.p 12).cell rfl | exact (hS.p 13).cell rfl | exact (hS.p 14).cell rfl | exact (hS.p 15).cell rfl | exact (hS.p 16).cell rfl | exact (hS.p 17).cell rfl | exact (hS.p 18).cell rfl | exact (hS.p 19).cell rfl)) ?_; clear hA a; intro a hA
                                     refine go1y hA (wanted_yes hA rfl rfl rfl) rfl rfl (r_index (hA.ev rfl) (hA.ev rfl) T.un54 T.sz3 (by omega) (by omega)) ?_; clear hA a; intro a hA
                                     refine go1y hA (wanted_yes hA rfl rfl rfl) rfl rfl (r_load (hA.ev rfl) T.fl3 (rdl (hS.p 5).rd (map_at hyx))) ?_; clear hA a; intro a hA
                                     refine go1y hA (wanted_yes hA rfl rfl rfl) rfl rfl (as_f (r_neq (hA.ev rfl) (hA.ev rfl)) (by omega)) ?_; clear hA a; intro a hA
                                     refine go1 hA rfl rfl rfl (r_pick_f (hA.ev rfl) (hA.ev rfl)) ?_; clear hA a; intro a hA
                                     refine wpList_nil ?_
                                     refine hk78 _ _ ?_
                                     clear hk78 k78
                                     replace hA := hA.keep (.cons (i := 2) rfl (.cons (i := 18) rfl (.cons (i := 224) rfl .nil)))
                                     refine wpIn_cond_false (hA.ev rfl) ?_
                                     refine wpIn_skip ?_
                                     refine hk77 _ _ ?_
                                     clear hk77 k77
                                     replace hA := hA.keep (.cons (i := 18) rfl .nil)
                                     refine region_in (open_round _) (fun ⟨_, _, hq⟩ => False.elim hq) rfl ?_
                                     refine go1 hA rfl rfl rfl (r_load (hA.ev rfl) T.fl3 (by first | exact hS.cell rfl | exact (hS.p 1).cell rfl | exact (hS.p 2).cell rfl | exact (hS.p 3).cell rfl | exact (hS.p 4).cell rfl | exact (hS.p 5).cell rfl | exact (hS.p 6).cell rfl | exact (hS.p 7).cell rfl | exact (hS.p 8).cell rfl | exact (hS.p 9).cell rfl | exact (hS.p 10).cell rfl | exact (hS.p 11).cell rfl | exact (hS.p 12).cell rfl | exact (hS.p 13).cell rfl | exact (hS.p 14).cell rfl | exact (hS.p 15).cell rfl | exact (hS.p 16).cell rfl | exact (hS.p 17).cell rfl | exact (hS.p 18).cell rfl | exact (hS.p 19).cell rfl)) ?_; clear hA a; intro a hA
                                     refine go1 hA rfl rfl rfl (r_add64 (hA.ev rfl) (hA.ev rfl) (by omega) (by omega)) ?_; clear hA a; intro a hA
                                     first | refine goW2 (cs' := [_]) hA rfl rfl T.fl3 T.sz3 rfl hS rfl rfl ?_ | refine goW2 (cs' := [_]) hA rfl rfl T.fl3 T.sz3 rfl (hS.p 1) rfl rfl ?_ | refine goW2 (cs' := [_]) hA rfl rfl T.fl3 T.sz3 rfl (hS.p 2) rfl rfl ?_ | refine goW2 (cs' := [_]) hA rfl rfl T.fl3 T.sz3 rfl (hS.p 3) rfl rfl ?_ | refine goW2 (cs' := [_]) hA rfl rfl T.fl3 T.sz3 rfl (hS.p 4) rfl rfl ?_ | refine goW2 (cs' := [_]) hA rfl rfl T.fl3 T.sz3 rfl (hS.p 5) rfl rfl ?_ | refine goW2 (cs' := [_]) hA rfl rfl T.fl3 T.sz3 rfl (hS.p 6) rfl rfl ?_ | refine goW2 (cs' := [_]) hA rfl rfl T.fl3 T.sz3 rfl (hS.p 7) rfl rfl ?_ | refine goW2 (cs' := [_]) hA rfl rfl T.fl3 T.sz3 rfl (hS.p 8) rfl rfl ?_ | refine goW2 (cs' := [_]) hA rfl rfl T.fl3 T.sz3 rfl (hS.p 9) rfl rfl ?_ | refine goW2 (cs' := [_]) hA rfl rfl T.fl3 T.sz3 rfl (hS.p 10) rfl rfl ?_ | refine goW2 (cs' := [_]) hA rfl rfl T.fl3 T.sz3 rfl (hS.p 11) rfl rfl ?_ | refine goW2 (cs' := [_]) hA rfl rfl T.fl3 T.sz3 rfl (hS.p 12) rfl rfl ?_ | refine goW2 (cs' := [_]) hA rfl rfl T.fl3 T.sz3 rfl (hS.p 13) rfl rfl ?_ | refine goW2 (cs' := [_]) hA rfl rfl T.fl3 T.sz3 rfl (hS.p 14) rfl rfl ?_ | refine goW2 (cs' := [_]) hA rfl rfl T.fl3 T.sz3 rfl (hS.p 15) rfl rfl ?_ | refine goW2 (cs' := [_]) hA rfl rfl T.fl3 T.sz3 rfl (hS.p 16) rfl rfl ?_ | refine goW2 (cs' := [_]) hA rfl rfl T.fl3 T.sz3 rfl (hS.p 17) rfl rfl ?_ | refine goW2 (cs' := [_]) hA rfl rfl T.fl3 T.sz3 rfl (hS.p 18) rfl rfl ?_ | refine goW2 (cs' := [_]) hA rfl rfl T.fl3 T.sz3 rfl (hS.p 19) rfl rfl ?_
                                     clear hS; intro w hS
                                     refine wpList_nil ?_
                                     refine block_normal ?_
                                     exact tostars (M := [_, _, _, _, _, _, _]) (((((((hS.p 6).p 6).p 6).p 6).p 6).p 6))
                                   · skip
                                     intro D w hS
                                     have hA := ag_mark hA D
                                     revert hA
                                     generalize ({ a with defers := _ :: a.defers } : Act) = a
                                     intro hA
                                     rw [wks_len] at hS; replace hS := unstars hS
                                     refine block_normal ?_
                                     refine hk74 _ _ ?_
                                     clear hk74 k74
                                     refine wp_seq_k fun k79 hk79 => ?_
                                     refine wp_region_lit ?_
                                     refine go1 hA rfl rfl rfl (r_load (hA.ev rfl) T.fl3 (by first | exact hS.cell rfl | exact (hS.p 1).cell rfl | exact (hS.p 2).cell rfl | exact (hS.p 3).cell rfl | exact (hS.p 4).cell rfl | exact (hS.p 5).cell rfl | exact (hS.p 6).cell rfl | exact (hS.p 7).cell rfl | exact (hS.p 8).cell rfl | exact (hS.p 9).cell rfl | exact (hS.p 10).cell rfl | exact (hS.p 11).cell rfl | exact (hS.p 12).cell rfl | exact (hS.p 13).cell rfl | exact (hS.p 14).cell rfl | exact (hS.p 15).cell rfl | exact (hS.p 16).cell rfl | exact (hS.p 17).cell rfl | exact (hS.p 18).cell rfl | exact (hS.p 19).cell rfl)) ?_; clear hA a; intro a hA
                                     refine go1 hA rfl rfl rfl (r_load (hA.ev rfl) T.fl54 (by first | exact hS.cell rfl | exact (hS.p 1).cell rfl | exact (hS.p 2).cell rfl | exact (hS.p 3).cell rfl | exact (hS.p 4).cell rfl | exact (hS.p 5).cell rfl | exact (hS.p 6).cell rfl | exact (hS.p 7).cell rfl | exact (hS.p 8).cell rfl | exact (hS.p 9).cell rfl | exact (hS.p 10).cell rfl | exact (hS.p 11).cell rfl | exact (hS.p 12).cell rfl | exact (hS.p 13).cell rfl | exact (hS.p 14).cell rfl | exact (hS.p 15).cell rfl | exact (hS.p 16).cell rfl | exact (hS.p 17).cell rfl | exact (hS.p 18).cell rfl | exact (hS.p 19).cell rfl)) ?_; clear hA a; intro a hA
                                     refine go1 hA rfl rfl rfl (r_lens (hA.ev rfl) T.un54) ?_; clear hA a; intro a hA
                                     refine go1 hA rfl rfl rfl (as_f (r_neq (hA.ev rfl) (hA.ev rfl)) (by omega)) ?_; clear hA a; intro a hA
                                     refine wpList_nil ?_
                                     refine hk79 _ _ ?_
                                     clear hk79 k79
                                     refine wp_cond_false (hA.ev rfl) ?_
                                     refine wp_skip ?_
                                     refine block_normal ?_
                                     refine hk69 _ _ ?_
                                     clear hk69 k69
                                     refine wp_region_lit ?_
                                     refine go1 hA rfl rfl rfl (r_move (hA.ev rfl)) ?_; clear hA a; intro a hA
                                     refine go1 hA rfl rfl rfl (r_add64 (hA.ev rfl) (hA.ev rfl) (by omega) (by omega)) ?_; clear hA a; intro a hA
                                     refine go1 hA rfl rfl rfl (r_assign (hA.ev rfl)) ?_; clear hA a; intro a hA
                                     refine wpList_nil ?_
                                     replace hA := hA.keep (.cons (i := 1) rfl (.cons (i := 2) rfl (.cons (i := 3) rfl (.cons (i := 4) rfl (.cons (i := 5) rfl (.cons (i := 6) rfl (.cons (i := 7) rfl (.cons (i := 9) rfl (.cons (i := 11) rfl (.cons (i := 15) rfl (.cons (i := 18) rfl (.cons (i := 24) rfl .nil))))))))))))
                                     first
                                       | exact ⟨(3 - (t + 1)).toNat, by omega, t + 1, _, D :: Ds3, hA, ((((((((((((((((((((more_stars ((hS.p 8).p 8)).p 18).p 18).p 18).p 18).p 18).p 18).p 18).p 18).p 18).p 15).p 18).p 18).p 15).p 15).p 15).p 18).p 16).p 18).p 18).drop.drop, by omega, by omega, rfl⟩
                                       | exact ⟨(3 - (t + 1)).toNat, by omega, t + 1, _, D :: Ds3, hA, ((((((((((((((((((((more_stars ((hS.p 8).p 8)).p 18).p 18).p 18).p 18).p 10).p 8).p 8).p 8).p 18).p 18).p 18).p 18).p 18).p 18).p 18).p 18).p 16).p 18).p 18).drop.drop, by omega, by omega, rfl⟩
                                   · skip
                                     intro D c w hS
                                     have hA := ag_mark hA D
                                     revert hA
                                     generalize ({ a with defers := _ :: a.defers } : Act) = a
                                     intro hA
                                     exact (Sat.no hS).elim
                                · clear hA a; intro h199 a hA
                                  try (first | contradiction | (exfalso; omega) | (exfalso; simp at h199; done))
                                  all_goals
                                   skip
                                   refine wpList_nil ?_
                                   refine hk72 _ _ ?_
                                   clear hk72 k72
                                   refine wp_cond_false (hA.ev rfl) ?_
                                   refine wp_skip ?_
                                   refine hk71 _ _ ?_
                                   clear hk71 k71
                                   refine wp_seq_k fun k80 hk80 => ?_
                                   refine wp_region_lit ?_
                                   first | refine goW2 (cs' := [_]) hA rfl rfl T.fl3 T.sz3 rfl hS rfl rfl ?_ | refine goW2 (cs' := [_]) hA rfl rfl T.fl3 T.sz3 rfl (hS.p 1) rfl rfl ?_ | refine goW2 (cs' := [_]) hA rfl rfl T.fl3 T.sz3 rfl (hS.p 2) rfl rfl ?_ | refine goW2 (cs' := [_]) hA rfl rfl T.fl3 T.sz3 rfl (hS.p 3) rfl rfl ?_ | refine goW2 (cs' := [_]) hA rfl rfl T.fl3 T.sz3 rfl (hS.p 4) rfl rfl ?_ | refine goW2 (cs' := [_]) hA rfl rfl T.fl3 T.sz3 rfl (hS.p 5) rfl rfl ?_ | refine goW2 (cs' := [_]) hA rfl rfl T.fl3 T.sz3 rfl (hS.p 6) rfl rfl ?_ | refine goW2 (cs' := [_]) hA rfl rfl T.fl3 T.sz3 rfl (hS.p 7) rfl rfl ?_ | refine goW2 (cs' := [_]) hA rfl rfl T.fl3 T.sz3 rfl (hS.p 8) rfl rfl ?_ | refine goW2 (cs' := [_]) hA rfl rfl T.fl3 T.sz3 rfl (hS.p 9) rfl rfl ?_ | refine goW2 (cs' := [_]) hA rfl rfl T.fl3 T.sz3 rfl (hS.p 10) rfl rfl ?_ | refine goW2 (cs' := [_]) hA rfl rfl T.fl3 T.sz3 rfl (hS.p 11) rfl rfl ?_ | refine goW2 (cs' := [_]) hA rfl rfl T.fl3 T.sz3 rfl (hS.p 12) rfl rfl ?_ | refine goW2 (cs' := [_]) hA rfl rfl T.fl3 T.sz3 rfl (hS.p 13) rfl rfl ?_ | refine goW2 (cs' := [_]) hA rfl rfl T.fl3 T.sz3 rfl (hS.p 14) rfl rfl ?_ | refine goW2 (cs' := [_]) hA rfl rfl T.fl3 T.sz3 rfl (hS.p 15) rfl rfl ?_ | refine goW2 (cs' := [_]) hA rfl rfl T.fl3 T.sz3 rfl (hS.p 16) rfl rfl ?_ | refine goW2 (cs' := [_]) hA rfl rfl T.fl3 T.sz3 rfl (hS.p 17) rfl rfl ?_ | refine goW2 (cs' := [_]) hA rfl rfl T.fl3 T.sz3 rfl (hS.p 18) rfl rfl ?_ | refine goW2 (cs' := [_]) hA rfl rfl T.fl3 T.sz3 rfl (hS.p 19) rfl rfl ?_
                                   clear hS; intro w hS
                                   refine wpList_nil ?_
                                   refine hk80 _ _ ?_
                                   clear hk80 k80
                                   refine wp_seq_k fun k81 hk81 => ?_
                                   refine wp_seq_k fun k82 hk82 => ?_
                                   refine wp_region_lit ?_
                                   refine go1 hA rfl rfl rfl (r_move (hA.ev rfl)) ?_; clear hA a; intro a hA
                                   refine wpList_nil ?_
                                   refine hk82 _ _ ?_
                                   clear hk82 k82
                                   refine wp_block ?_
                                   refine wp_range (xs := wks fr ws) (wzX Bo Ao b26 b27 b18 fr po pw co cw ws) (fun _ _ => False) (hA.ev rfl) (fun _ _ => run_callFunc (by kernel_rfl)) (Walk1_iter (p := po) (c := co) (by omega) (by omega) (by omega)) ?_ ?_ ((show Sat W w (wzX Bo Ao b26 b27 b18 fr po pw co cw ws 0 :: _) from tostars (M := [_, _, _, _, _, _, _]) (((((((hS.p 14).p 2).p 3).p 14).p 14).p 14)))) ?_ ?_ ?_
                                   · intro x hx; obtain ⟨k, hk⟩ := List.mem_iff_getElem?.1 hx; obtain ⟨y, _, rfl⟩ := wks_of hk; rfl
                                   · exact fun k w' M h => wzX_cap h
                                   · skip
                                     intro r k x L' w hx hS
                                     obtain ⟨y, hyx, rfl⟩ := wks_of hx; have hkl := (List.getElem?_eq_some_iff.1 hyx).1; replace hS := unstars hS; obtain ⟨q_p, rfl⟩ : ∃ q, pw = some q := (hS.p 5).rd.hasAddr (by omega)
                                     have hA := ag_round2 hA (p := 204) (q := 205) rfl rfl (.int .i64 (fr + (k : Int))) (.int .i64 y)
                                     revert hA
                                     generalize ({ tmps := _, defers := [] } : Act) = a
                                     intro hA
                                     refine wpIn_seq_k fun k83 hk83 => ?_
                                     refine region_in (open_round _) (fun ⟨_, _, hq⟩ => False.elim hq) rfl ?_
                                     refine go1 hA rfl rfl rfl (r_assign (hA.ev rfl)) ?_; clear hA a; intro a hA
                                     refine wpList_nil ?_
                                     refine hk83 _ _ ?_
                                     clear hk83 k83
                                     refine region_in (open_round _) (fun ⟨_, _, hq⟩ => False.elim hq) rfl ?_
                                     refine go1 hA rfl rfl rfl (r_assign (hA.ev rfl)) ?_; clear hA a; intro a hA
                                     refine wpList_nil ?_
                                     refine ⟨stars [_, _, _, _, _, _, _], tostars (M := [_, _, _, _, _, _, _]) hS, fun L2 w hS => ?_⟩
                                     replace hS := unstars hS
                                     refine wpIn_block ?_
                                     refine wpIn_seq_k fun k84 hk84 => ?_
                                     refine wpIn_seq_k fun k85 hk85 => ?_
                                     refine region_in (open_round _) (fun ⟨_, _, hq⟩ => False.elim hq) rfl ?_
                                     refine go1 hA rfl rfl rfl (r_load (hA.ev rfl) T.fl3 (by first | exact hS.cell rfl | exact (hS.p 1).cell rfl | exact (hS.p 2).cell rfl | exact (hS.p 3).cell rfl | exact (hS.p 4).cell rfl | exact (hS.p 5).cell rfl | exact (hS.p 6).cell rfl | exact (hS.p 7).cell rfl | exact (hS.p 8).cell rfl | exact (hS.p 9).cell rfl | exact (hS.p 10).cell rfl | exact (hS.p 11).cell rfl | exact (hS.p 12).cell rfl | exact (hS.p 13).cell rfl | exact (hS.p 14).cell rfl | exact (hS.p 15).cell rfl | exact (hS.p 16).cell rfl | exact (hS.p 17).cell rfl | exact (hS.p 18).cell rfl | exact (hS.p 19).cell rfl)) ?_; clear hA a; intro a hA
                                     refine go1 hA rfl rfl rfl (r_load (hA.ev rfl) T.fl54 (by first | exact hS.cell rfl | exact (hS.p 1).cell rfl | exact (hS.p 2).cell rfl | exact (hS.p 3).cell rfl | exact (hS.p 4).cell rfl | exact (hS.p 5).cell rfl | exact (hS.p 6).cell rfl | exact (hS.p 7).cell rfl | exact (hS.p 8).cell rfl | exact (hS.p 9).cell rfl | exact (hS.p 10).cell rfl | exact (hS.p 11).cell rfl | exact (hS.p 12).cell rfl | exact (hS.p 13).cell rfl | exact (hS.p 14).cell rfl | exact (hS.p 15).cell rfl | exact (hS.p 16).cell rfl | exact (hS.p 17).cell rfl | exact (hS.p 18).cell rfl | exact (hS.p 19).cell rfl)) ?_; clear hA a; intro a hA
                                     refine go1 hA rfl rfl rfl (r_lens (hA.ev rfl) T.un54) ?_; clear hA a; intro a hA
                                     refine go1 hA rfl rfl rfl (as_f (r_geq (hA.ev rfl) (hA.ev rfl)) (by omega)) ?_; clear hA a; intro a hA
                                     refine go1 hA rfl rfl rfl (r_move (hA.ev rfl)) ?_; clear hA a; intro a hA
                                     refine go1y hA (wanted_yes hA rfl rfl rfl) rfl rfl (r_move (hA.ev rfl)) ?_; clear hA a; intro a hA
                                     refine go1y hA (wanted_yes hA rfl rfl rfl) rfl rfl (r_load (hA.ev rfl) T.fl3 (by first | exact hS.cell rfl | exact (hS.p 1).cell rfl | exact (hS.p 2).cell rfl | exact (hS.p 3).cell rfl | exact (hS.p 4).cell rfl | exact (hS.p 5).cell rfl | exact (hS.p 6).cell rfl | exact (hS.p 7).cell rfl | exact (hS.p 8).cell rfl | exact (hS.p 9).cell rfl | exact (hS.p 10).cell rfl | exact (hS.p 11).cell rfl | exact (hS.p 12).cell rfl | exact (hS.p 13).cell rfl | exact (hS.p 14).cell rfl | exact (hS.p 15).cell rfl | exact (hS.p 16).cell rfl | exact (hS.p 17).cell rfl | exact (hS.p 18).cell rfl | exact (hS.p 19).cell rfl)) ?_; clear hA a; intro a hA
                                     refine go1y hA (wanted_yes hA rfl rfl rfl) rfl rfl (r_load (hA.ev rfl) T.fl3 (by first | exact hS.cell rfl | exact (hS.p 1).cell rfl | exact (hS.p 2).cell rfl | exact (hS.p 3).cell rfl | exact (hS.p 4).cell rfl | exact (hS.p 5).cell rfl | exact (hS.p 6).cell rfl | exact (hS.p 7).cell rfl | exact (hS.p 8).cell rfl | exact (hS.p 9).cell rfl | exact (hS.p 10).cell rfl | exact (hS.p 11).cell rfl | exact (hS.p 12).cell rfl | exact (hS.p 13).cell rfl | exact (hS.p 14).cell rfl | exact (hS.p 15).cell rfl | exact (hS.p 16).cell rfl | exact (hS.p 17).cell rfl | exact (hS.p 18).cell rfl | exact (hS.p 19).cell rfl)) ?_; clear hA a; intro a hA
                                     refine go1y hA (wanted_yes hA rfl rfl rfl) rfl rfl (r_add64 (hA.ev rfl) (hA.ev rfl) (by omega) (by omega)) ?_; clear hA a; intro a hA
                                     refine go1y hA (wanted_yes hA rfl rfl rfl) rfl rfl (as_f (r_neq (hA.ev rfl) (hA.ev rfl)) (by omega)) ?_; clear hA a; intro a hA
                                     refine go1 hA rfl rfl rfl (r_pick_f (hA.ev rfl) (hA.ev rfl)) ?_; clear hA a; intro a hA
                                     refine go1 hA rfl rfl rfl (r_move (hA.ev rfl)) ?_; clear hA a; intro a hA
                                     refine go1y hA (wanted_yes hA rfl rfl rfl) rfl rfl (r_move (hA.ev rfl)) ?_; clear hA a; intro a hA
                                     refine go1y hA (wanted_yes hA rfl rfl rfl) rfl rfl (r_load (hA.ev rfl) T.fl54 (by first | exact hS.cell rfl | exact (hS.p 1).cell rfl | exact (hS.p 2).cell rfl | exact (hS.p 3).cell rfl | exact (hS.p 4).cell rfl | exact (hS.p 5).cell rfl | exact (hS.p 6).cell rfl | exact (hS.p 7).cell rfl | exact (hS.p 8).cell rfl | exact (hS.p 9).cell rfl | exact (hS.p 10).cell rfl | exact (hS.p 11).cell rfl | exact (hS.p 12).cell rfl | exact (hS.p 13).cell rfl | exact (hS.p 14).cell rfl | exact (hS.p 15).cell rfl | exact (hS.p 16).cell rfl | exact (hS.p 17).cell rfl | exact (hS.p 18).cell rfl | exact (hS.p 19).cell rfl)) ?_; clear hA a; intro a hA
                                     refine go1y hA (wanted_yes hA rfl rfl rfl) rfl rfl (r_load (hA.ev rfl) T.fl3 (by first | exact hS.cell rfl | exact (hS.p 1).cell rfl | exact (hS.p 2).cell rfl | exact (hS.p 3).cell rfl | exact (hS.p 4).cell rfl | exact (hS.p 5).cell rfl | exact (hS.p 6).cell rfl | exact (hS.p 7).cell rfl | exact (hS.p 8).cell rfl | exact (hS.p 9).cell rfl | exact (hS.p 10).cell rfl | exact (hS.p 11).cell rfl | exact (hS.p 12).cell rfl | exact (hS.p 13).cell rfl | exact (hS.p 14).cell rfl | exact (hS.p 15).cell rfl | exact (hS.p 16).cell rfl | exact (hS.p 17).cell rfl | exact (hS.p 18).cell rfl | exact (hS.p 19).cell rfl)) ?_; clear hA a; intro a hA
                                     refine go1y hA (wanted_yes hA rfl rfl rfl) rfl rfl (r_index (hA.ev rfl) (hA.ev rfl) T.un54 T.sz3 (by omega) (by omega)) ?_; clear hA a; intro a hA
                                     refine go1y hA (wanted_yes hA rfl rfl rfl) rfl rfl (r_load (hA.ev rfl) T.fl3 (rdl (hS.p 5).rd (map_at hyx))) ?_; clear hA a; intro a hA
                                     refine go1y hA (wanted_yes hA rfl rfl rfl) rfl rfl (as_f (r_neq (hA.ev rfl) (hA.ev rfl)) (by omega)) ?_; clear hA a; intro a hA
                                     refine go1 hA rfl rfl rfl (r_pick_f (hA.ev rfl) (hA.ev rfl)) ?_; clear hA a; intro a hA
                                     refine wpList_nil ?_
                                     refine hk85 _ _ ?_
                                     clear hk85 k85
                                     replace hA := hA.keep (.cons (i := 2) rfl (.cons (i := 18) rfl (.cons (i := 224) rfl .nil)))
                                     refine wpIn_cond_false (hA.ev rfl) ?_
                                     refine wpIn_skip ?_
                                     refine hk84 _ _ ?_
                                     clear hk84 k84
                                     replace hA := hA.keep (.cons (i := 18) rfl .nil)
                                     refine region_in (open_round _) (fun ⟨_, _, hq⟩ => False.elim hq) rfl ?_
                                     refine go1 hA rfl rfl rfl (r_load (hA.ev rfl) T.fl3 (by first | exact hS.cell rfl | exact (hS.p 1).cell rfl | exact (hS.p 2).cell rfl | exact (hS.p 3).cell rfl | exact (hS.p 4).cell rfl | exact (hS.p 5).cell rfl | exact (hS.p 6).cell rfl | exact (hS.p 7).cell rfl | exact (hS.p 8).cell rfl | exact (hS.p 9).cell rfl | exact (hS.p 10).cell rfl | exact (hS.p 11).cell rfl | exact (hS.p 12).cell rfl | exact (hS.p 13).cell rfl | exact (hS.p 14).cell rfl | exact (hS.p 15).cell rfl | exact (hS.p 16).cell rfl | exact (hS.p 17).cell rfl | exact (hS.p 18).cell rfl | exact (hS.p 19).cell rfl)) ?_; clear hA a; intro a hA
                                     refine go1 hA rfl rfl rfl (r_add64 (hA.ev rfl) (hA.ev rfl) (by omega) (by omega)) ?_; clear hA a; intro a hA
                                     first | refine goW2 (cs' := [_]) hA rfl rfl T.fl3 T.sz3 rfl hS rfl rfl ?_ | refine goW2 (cs' := [_]) hA rfl rfl T.fl3 T.sz3 rfl (hS.p 1) rfl rfl ?_ | refine goW2 (cs' := [_]) hA rfl rfl T.fl3 T.sz3 rfl (hS.p 2) rfl rfl ?_ | refine goW2 (cs' := [_]) hA rfl rfl T.fl3 T.sz3 rfl (hS.p 3) rfl rfl ?_ | refine goW2 (cs' := [_]) hA rfl rfl T.fl3 T.sz3 rfl (hS.p 4) rfl rfl ?_ | refine goW2 (cs' := [_]) hA rfl rfl T.fl3 T.sz3 rfl (hS.p 5) rfl rfl ?_ | refine goW2 (cs' := [_]) hA rfl rfl T.fl3 T.sz3 rfl (hS.p 6) rfl rfl ?_ | refine goW2 (cs' := [_]) hA rfl rfl T.fl3 T.sz3 rfl (hS.p 7) rfl rfl ?_ | refine goW2 (cs' := [_]) hA rfl rfl T.fl3 T.sz3 rfl (hS.p 8) rfl rfl ?_ | refine goW2 (cs' := [_]) hA rfl rfl T.fl3 T.sz3 rfl (hS.p 9) rfl rfl ?_ | refine goW2 (cs' := [_]) hA rfl rfl T.fl3 T.sz3 rfl (hS.p 10) rfl rfl ?_ | refine goW2 (cs' := [_]) hA rfl rfl T.fl3 T.sz3 rfl (hS.p 11) rfl rfl ?_ | refine goW2 (cs' := [_]) hA rfl rfl T.fl3 T.sz3 rfl (hS.p 12) rfl rfl ?_ | refine goW2 (cs' := [_]) hA rfl rfl T.fl3 T.sz3 rfl (hS.p 13) rfl rfl ?_ | refine goW2 (cs' := [_]) hA rfl rfl T.fl3 T.sz3 rfl (hS.p 14) rfl rfl ?_ | refine goW2 (cs' := [_]) hA rfl rfl T.fl3 T.sz3 rfl (hS.p 15) rfl rfl ?_ | refine goW2 (cs' := [_]) hA rfl rfl T.fl3 T.sz3 rfl (hS.p 16) rfl rfl ?_ | refine goW2 (cs' := [_]) hA rfl rfl T.fl3 T.sz3 rfl (hS.p 17) rfl rfl ?_ | refine goW2 (cs' := [_]) hA rfl rfl T.fl3 T.sz3 rfl (hS.p 18) rfl rfl ?_ | refine goW2 (cs' := [_]) hA rfl rfl T.fl3 T.sz3 rfl (hS.p 19) rfl rfl ?_
                                     clear hS; intro w hS
                                     refine wpList_nil ?_
                                     refine block_normal ?_
                                     exact tostars (M := [_, _, _, _, _, _, _]) (((((((hS.p 6).p 6).p 6).p 6).p 6).p 6))
                                   · skip
                                     intro D w hS
                                     have hA := ag_mark hA D
                                     revert hA
                                     generalize ({ a with defers := _ :: a.defers } : Act) = a
                                     intro hA
                                     rw [wks_len] at hS; replace hS := unstars hS
                                     refine block_normal ?_
                                     refine hk81 _ _ ?_
                                     clear hk81 k81
                                     refine wp_seq_k fun k86 hk86 => ?_
                                     refine wp_region_lit ?_
                                     refine go1 hA rfl rfl rfl (r_load (hA.ev rfl) T.fl3 (by first | exact hS.cell rfl | exact (hS.p 1).cell rfl | exact (hS.p 2).cell rfl | exact (hS.p 3).cell rfl | exact (hS.p 4).cell rfl | exact (hS.p 5).cell rfl | exact (hS.p 6).cell rfl | exact (hS.p 7).cell rfl | exact (hS.p 8).cell rfl | exact (hS.p 9).cell rfl | exact (hS.p 10).cell rfl | exact (hS.p 11).cell rfl | exact (hS.p 12).cell rfl | exact (hS.p 13).cell rfl | exact (hS.p 14).cell rfl | exact (hS.p 15).cell rfl | exact (hS.p 16).cell rfl | exact (hS.p 17).cell rfl | exact (hS.p 18).cell rfl | exact (hS.p 19).cell rfl)) ?_; clear hA a; intro a hA
                                     refine go1 hA rfl rfl rfl (r_load (hA.ev rfl) T.fl54 (by first | exact hS.cell rfl | exact (hS.p 1).cell rfl | exact (hS.p 2).cell rfl | exact (hS.p 3).cell rfl | exact (hS.p 4).cell rfl | exact (hS.p 5).cell rfl | exact (hS.p 6).cell rfl | exact (hS.p 7).cell rfl | exact (hS.p 8).cell rfl | exact (hS.p 9).cell rfl | exact (hS.p 10).cell rfl | exact (hS.p 11).cell rfl | exact (hS.p 12).cell rfl | exact (hS.p 13).cell rfl | exact (hS.p 14).cell rfl | exact (hS.p 15).cell rfl | exact (hS.p 16).cell rfl | exact (hS.p 17).cell rfl | exact (hS.p 18).cell rfl | exact (hS.p 19).cell rfl)) ?_; clear hA a; intro a hA
                                     refine go1 hA rfl rfl rfl (r_lens (hA.ev rfl) T.un54) ?_; clear hA a; intro a hA
                                     refine go1 hA rfl rfl rfl (as_f (r_neq (hA.ev rfl) (hA.ev rfl)) (by omega)) ?_; clear hA a; intro a hA
                                     refine wpList_nil ?_
                                     refine hk86 _ _ ?_
                                     clear hk86 k86
                                     refine wp_cond_false (hA.ev rfl) ?_
                                     refine wp_skip ?_
                                     refine block_normal ?_
                                     refine hk69 _ _ ?_
                                     clear hk69 k69
                                     refine wp_region_lit ?_
                                     refine go1 hA rfl rfl rfl (r_move (hA.ev rfl)) ?_; clear hA a; intro a hA
                                     refine go1 hA rfl rfl rfl (r_add64 (hA.ev rfl) (hA.ev rfl) (by omega) (by omega)) ?_; clear hA a; intro a hA
                                     refine go1 hA rfl rfl rfl (r_assign (hA.ev rfl)) ?_; clear hA a; intro a hA
                                     refine wpList_nil ?_
                                     replace hA := hA.keep (.cons (i := 1) rfl (.cons (i := 2) rfl (.cons (i := 3) rfl (.cons (i := 4) rfl (.cons (i := 5) rfl (.cons (i := 6) rfl (.cons (i := 7) rfl (.cons (i := 9) rfl (.cons (i := 11) rfl (.cons (i := 15) rfl (.cons (i := 18) rfl (.cons (i := 24) rfl .nil))))))))))))
                                     first
                                       | exact ⟨(3 - (t + 1)).toNat, by omega, t + 1, _, D :: Ds3, hA, ((((((((((((((((((((more_stars ((hS.p 8).p 8)).p 18).p 18).p 18).p 18).p 18).p 18).p 18).p 18).p 18).p 15).p 18).p 18).p 15).p 15).p 15).p 18).p 16).p 18).p 18).drop.drop, by omega, by omega, rfl⟩
                                       | exact ⟨(3 - (t + 1)).toNat, by omega, t + 1, _, D :: Ds3, hA, ((((((((((((((((((((more_stars ((hS.p 8).p 8)).p 18).p 18).p 18).p 18).p 10).p 8).p 8).p 8).p 18).p 18).p 18).p 18).p 18).p 18).p 18).p 18).p 16).p 18).p 18).drop.drop, by omega, by omega, rfl⟩
                                   · skip
                                     intro D c w hS
                                     have hA := ag_mark hA D
                                     revert hA
                                     generalize ({ a with defers := _ :: a.defers } : Act) = a
                                     intro hA
                                     exact (Sat.no hS).elim
                             · clear hA a; intro h192 a hA
                               try (first | contradiction | (exfalso; omega) | (exfalso; simp at h192; done))
                               all_goals
                                skip
                                refine wpList_nil ?_
                                refine hk68 _ _ ?_
                                clear hk68 k68
                                refine wp_cond_false (hA.ev rfl) ?_
                                refine wp_exit ?_
                                refine then_exit ?_; clear hk67 k67
                                refine then_exit ?_
                                refine block_hit ?_
                                refine hk65 _ _ ?_
                                clear hk65 k65
                                refine qEnter (fun w' => Sat _ w' _) (by kernel_rfl) (by kernel_rfl) hS.drew ?_
                                refine K.q1 hA rfl rfl rfl (fun w hS => (r_load (hA.ev rfl) T.fl87 (by first | exact hS.cell rfl | exact (hS.p 1).cell rfl | exact (hS.p 2).cell rfl | exact (hS.p 3).cell rfl | exact (hS.p 4).cell rfl | exact (hS.p 5).cell rfl | exact (hS.p 6).cell rfl | exact (hS.p 7).cell rfl | exact (hS.p 8).cell rfl | exact (hS.p 9).cell rfl | exact (hS.p 10).cell rfl | exact (hS.p 11).cell rfl | exact (hS.p 12).cell rfl | exact (hS.p 13).cell rfl | exact (hS.p 14).cell rfl | exact (hS.p 15).cell rfl | exact (hS.p 16).cell rfl | exact (hS.p 17).cell rfl | exact (hS.p 18).cell rfl | exact (hS.p 19).cell rfl))) ?_; clear hA a; intro a hA
                                refine K.q1 hA rfl rfl rfl (fun w hS => (r_load (hA.ev rfl) T.fl3 (by first | exact hS.cell rfl | exact (hS.p 1).cell rfl | exact (hS.p 2).cell rfl | exact (hS.p 3).cell rfl | exact (hS.p 4).cell rfl | exact (hS.p 5).cell rfl | exact (hS.p 6).cell rfl | exact (hS.p 7).cell rfl | exact (hS.p 8).cell rfl | exact (hS.p 9).cell rfl | exact (hS.p 10).cell rfl | exact (hS.p 11).cell rfl | exact (hS.p 12).cell rfl | exact (hS.p 13).cell rfl | exact (hS.p 14).cell rfl | exact (hS.p 15).cell rfl | exact (hS.p 16).cell rfl | exact (hS.p 17).cell rfl | exact (hS.p 18).cell rfl | exact (hS.p 19).cell rfl))) ?_; clear hA a; intro a hA
                                refine K.q1 hA rfl rfl rfl (fun w hS => (r_load (hA.ev rfl) T.fl54 (by first | exact hS.cell rfl | exact (hS.p 1).cell rfl | exact (hS.p 2).cell rfl | exact (hS.p 3).cell rfl | exact (hS.p 4).cell rfl | exact (hS.p 5).cell rfl | exact (hS.p 6).cell rfl | exact (hS.p 7).cell rfl | exact (hS.p 8).cell rfl | exact (hS.p 9).cell rfl | exact (hS.p 10).cell rfl | exact (hS.p 11).cell rfl | exact (hS.p 12).cell rfl | exact (hS.p 13).cell rfl | exact (hS.p 14).cell rfl | exact (hS.p 15).cell rfl | exact (hS.p 16).cell rfl | exact (hS.p 17).cell rfl | exact (hS.p 18).cell rfl | exact (hS.p 19).cell rfl))) ?_; clear hA a; intro a hA
                                refine K.q1 hA rfl rfl rfl (fun w hS => (r_assign (hA.ev rfl))) ?_; clear hA a; intro a hA
                                refine K.q1 hA rfl rfl rfl (fun w hS => (r_assign (hA.ev rfl))) ?_; clear hA a; intro a hA
                                refine K.q1 hA rfl rfl rfl (fun w hS => (r_assign (hA.ev rfl))) ?_; clear hA a; intro a hA
                                refine wpQuiet_nil ?_
                                clear hS; intro w hS
                                refine block_normal ?_
                                refine hk17 _ _ ?_
                                clear hk17 k17
                                refine wp_region_lit ?_
                                refine go1 hA rfl rfl rfl (r_move (hA.ev rfl)) ?_; clear hA a; intro a hA
                                refine go1 hA rfl rfl rfl (r_add64 (hA.ev rfl) (hA.ev rfl) (by omega) (by omega)) ?_; clear hA a; intro a hA
                                refine go1 hA rfl rfl rfl (r_assign (hA.ev rfl)) ?_; clear hA a; intro a hA
                                refine wpList_nil ?_
                                replace hA := hA.keep (.cons (i := 1) rfl (.cons (i := 2) rfl (.cons (i := 3) rfl (.cons (i := 4) rfl (.cons (i := 5) rfl (.cons (i := 6) rfl (.cons (i := 7) rfl .nil)))))))
                                first
                                  | exact ⟨(ops.length - (i + 1)).toNat, by omega, i + 1, _, _, _, _, _, _, _, _, _, _, _, _, _, hA, hS.drop, by omega, by omega, ⟨by omega, hg, hgM⟩, ⟨hf0, hf1, hw64⟩, rfl⟩
                                  | exact ⟨(ops.length - (i + 1)).toNat, by omega, i + 1, g2, xs2, _, _, Ds3, _, _, _, _, _, _, ys, _, hA, (((((((((((((((((hS.p 7).p 5).p 5).p 5).p 16).p 16).p 16).p 16).p 8).p 16).p 16).p 16).p 16).p 16).p 16).p 16).p 16).drop.drop.drop.drop.drop.drop.drop.drop, by omega, by omega, ⟨by omega, hg2, hgM2⟩, ⟨by omega, by omega, hyl⟩, rfl⟩
                        · skip
                          intro D c w hS
                          have hA := ag_mark hA D
                          revert hA
                          generalize ({ a with defers := _ :: a.defers } : Act) = a
                          intro hA
                          exact (Sat.no hS).elim
                · clear hA a; intro h103 a hA
                  try simp only [decide_eq_decide, decide_eq_true_eq, decide_eq_false_iff_not, Bool.not_eq_true', Bool.not_eq_false', bne_iff_ne, ne_eq, beq_iff_eq, Bool.not_eq_true, Bool.not_eq_false] at h103
                  try (first | contradiction | (exfalso; omega) | (exfalso; simp at h103; done))
                  all_goals
                   skip
                   refine go1 hA rfl rfl rfl (r_assign (hA.ev rfl)) ?_; clear hA a; intro a hA
                   refine go1 hA rfl rfl rfl (r_assign (hA.ev rfl)) ?_; clear hA a; intro a hA
                   refine wpList_nil ?_
                   refine hk40 _ _ ?_
                   clear hk40 k40
                   refine wp_seq_k fun k87 hk87 => ?_
                   refine wp_seq_k fun k88 hk88 => ?_
                   refine wp_region_lit ?_
                   refine go1 hA rfl rfl rfl (r_move (hA.ev rfl)) ?_; clear hA a; intro a hA
                   refine go1 hA rfl rfl rfl (r_not (hA.ev rfl)) ?_; clear hA a; intro a hA
                   refine go1 hA rfl rfl rfl (r_move (hA.ev rfl)) ?_; clear hA a; intro a hA
                   refine goS hA (wanted_no hA rfl rfl rfl rfl) rfl rfl ?_; clear hA a; intro a hA
                   refine goS hA (wanted_no hA rfl rfl rfl rfl) rfl rfl ?_; clear hA a; intro a hA
                   refine goS hA (wanted_no hA rfl rfl rfl rfl) rfl rfl ?_; clear hA a; intro a hA
                   refine goS hA (wanted_no hA rfl rfl rfl rfl) rfl rfl ?_; clear hA a; intro a hA
                   refine go1 hA rfl rfl rfl (r_pick_t (hA.ev rfl) (hA.ev rfl)) ?_; clear hA a; intro a hA
                   refine wpList_nil ?_
                   refine hk88 _ _ ?_
                   clear hk88 k88
                   refine wp_cond_true (hA.ev rfl) ?_
                   refine wp_seq_k fun k89 hk89 => ?_
                   refine wp_region_lit ?_
                   first | refine goW2 (cs' := [_]) hA rfl rfl T.fl4 T.sz4 rfl hS rfl rfl ?_ | refine goW2 (cs' := [_]) hA rfl rfl T.fl4 T.sz4 rfl (hS.p 1) rfl rfl ?_ | refine goW2 (cs' := [_]) hA rfl rfl T.fl4 T.sz4 rfl (hS.p 2) rfl rfl ?_ | refine goW2 (cs' := [_]) hA rfl rfl T.fl4 T.sz4 rfl (hS.p 3) rfl rfl ?_ | refine goW2 (cs' := [_]) hA rfl rfl T.fl4 T.sz4 rfl (hS.p 4) rfl rfl ?_ | refine goW2 (cs' := [_]) hA rfl rfl T.fl4 T.sz4 rfl (hS.p 5) rfl rfl ?_ | refine goW2 (cs' := [_]) hA rfl rfl T.fl4 T.sz4 rfl (hS.p 6) rfl rfl ?_ | refine goW2 (cs' := [_]) hA rfl rfl T.fl4 T.sz4 rfl (hS.p 7) rfl rfl ?_ | refine goW2 (cs' := [_]) hA rfl rfl T.fl4 T.sz4 rfl (hS.p 8) rfl rfl ?_ | refine goW2 (cs' := [_]) hA rfl rfl T.fl4 T.sz4 rfl (hS.p 9) rfl rfl ?_ | refine goW2 (cs' := [_]) hA rfl rfl T.fl4 T.sz4 rfl (hS.p 10) rfl rfl ?_ | refine goW2 (cs' := [_]) hA rfl rfl T.fl4 T.sz4 rfl (hS.p 11) rfl rfl ?_ | refine goW2 (cs' := [_]) hA rfl rfl T.fl4 T.sz4 rfl (hS.p 12) rfl rfl ?_ | refine goW2 (cs' := [_]) hA rfl rfl T.fl4 T.sz4 rfl (hS.p 13) rfl rfl ?_ | refine goW2 (cs' := [_]) hA rfl rfl T.fl4 T.sz4 rfl (hS.p 14) rfl rfl ?_ | refine goW2 (cs' := [_]) hA rfl rfl T.fl4 T.sz4 rfl (hS.p 15) rfl rfl ?_ | refine goW2 (cs' := [_]) hA rfl rfl T.fl4 T.sz4 rfl (hS.p 16) rfl rfl ?_ | refine goW2 (cs' := [_]) hA rfl rfl T.fl4 T.sz4 rfl (hS.p 17) rfl rfl ?_ | refine goW2 (cs' := [_]) hA rfl rfl T.fl4 T.sz4 rfl (hS.p 18) rfl rfl ?_ | refine goW2 (cs' := [_]) hA rfl rfl T.fl4 T.sz4 rfl (hS.p 19) rfl rfl ?_
                   clear hS; intro w hS
                   refine wpList_nil ?_
                   refine hk89 _ _ ?_
                   clear hk89 k89
                   refine wp_ret ?_
                   refine then_ret ?_; clear hk87 k87
                   refine block_ret ?_
                   refine then_ret ?_; clear hk17 k17
                   refine then_ret ?_
                   refine block_ret ?_
                   refine then_ret ?_; clear hk13 k13
                   exact endMC (Ds := Ds) hA rfl rfl T.fl4 (hS.p 1) (fun w' hS => hS.cell rfl) (fun w' hS => ⟨rfl, hS.nil⟩)
     · clear hA a; intro h49 a hA
       try (first | contradiction | (exfalso; omega) | (exfalso; simp at h49; done))
       all_goals
        skip
        refine wpList_nil ?_
        refine hk16 _ _ ?_
        clear hk16 k16
        refine wp_cond_false (hA.ev rfl) ?_
        refine wp_exit ?_
        refine then_exit ?_; clear hk15 k15
        refine then_exit ?_
        refine block_hit ?_
        refine hk13 _ _ ?_
        clear hk13 k13
        replace hA := hA.keep (.cons (i := 2) rfl .nil)
        refine wp_seq_k fun k90 hk90 => ?_
        refine wp_region_lit ?_
        first | refine goW2 (cs' := [_]) hA rfl rfl T.fl4 T.sz4 rfl hS rfl rfl ?_ | refine goW2 (cs' := [_]) hA rfl rfl T.fl4 T.sz4 rfl (hS.p 1) rfl rfl ?_ | refine goW2 (cs' := [_]) hA rfl rfl T.fl4 T.sz4 rfl (hS.p 2) rfl rfl ?_ | refine goW2 (cs' := [_]) hA rfl rfl T.fl4 T.sz4 rfl (hS.p 3) rfl rfl ?_ | refine goW2 (cs' := [_]) hA rfl rfl T.fl4 T.sz4 rfl (hS.p 4) rfl rfl ?_ | refine goW2 (cs' := [_]) hA rfl rfl T.fl4 T.sz4 rfl (hS.p 5) rfl rfl ?_ | refine goW2 (cs' := [_]) hA rfl rfl T.fl4 T.sz4 rfl (hS.p 6) rfl rfl ?_ | refine goW2 (cs' := [_]) hA rfl rfl T.fl4 T.sz4 rfl (hS.p 7) rfl rfl ?_ | refine goW2 (cs' := [_]) hA rfl rfl T.fl4 T.sz4 rfl (hS.p 8) rfl rfl ?_ | refine goW2 (cs' := [_]) hA rfl rfl T.fl4 T.sz4 rfl (hS.p 9) rfl rfl ?_ | refine goW2 (cs' := [_]) hA rfl rfl T.fl4 T.sz4 rfl (hS.p 10) rfl rfl ?_ | refine goW2 (cs' := [_]) hA rfl rfl T.fl4 T.sz4 rfl (hS.p 11) rfl rfl ?_ | refine goW2 (cs' := [_]) hA rfl rfl T.fl4 T.sz4 rfl (hS.p 12) rfl rfl ?_ | refine goW2 (cs' := [_]) hA rfl rfl T.fl4 T.sz4 rfl (hS.p 13) rfl rfl ?_ | refine goW2 (cs' := [_]) hA rfl rfl T.fl4 T.sz4 rfl (hS.p 14) rfl rfl ?_ | refine goW2 (cs' := [_]) hA rfl rfl T.fl4 T.sz4 rfl (hS.p 15) rfl rfl ?_ | refine goW2 (cs' := [_]) hA rfl rfl T.fl4 T.sz4 rfl (hS.p 16) rfl rfl ?_ | refine goW2 (cs' := [_]) hA rfl rfl T.fl4 T.sz4 rfl (hS.p 17) rfl rfl ?_ | refine goW2 (cs' := [_]) hA rfl rfl T.fl4 T.sz4 rfl (hS.p 18) rfl rfl ?_ | refine goW2 (cs' := [_]) hA rfl rfl T.fl4 T.sz4 rfl (hS.p 19) rfl rfl ?_
        clear hS; intro w hS
        refine wpList_nil ?_
        refine hk90 _ _ ?_
        clear hk90 k90
        refine wp_ret ?_
        exact endMC (Ds := Ds) hA rfl rfl T.fl4 (hS.p 1) (fun w' hS => hS.cell rfl) (fun w' hS => ⟨rfl, hS.nil⟩)
end Go.Proofs.Ytmooogahfkgljaa.Wk
