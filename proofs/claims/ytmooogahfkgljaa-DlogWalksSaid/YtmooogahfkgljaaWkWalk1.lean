/- The walk of what dlog.Log's Walk answers: it hands over the numbers and items one by one. Conditions: at most a million items. -/
import Derived.Test.YtmooogahfkgljaaT
import Derived.Test.YtmooogahfkgljaaK31
set_option linter.unusedVariables false
set_option linter.unusedSimpArgs false
namespace Go.Proofs.Ytmooogahfkgljaa.Wk
open Go Go.RowKit Go.Proofs.Ytmooogahfkgljaa Go.Proofs.Ytmooogahfkgljaa.K
def wks (s : Int) (ys : List Int) : List (Array Value) := ys.mapIdx fun k y => #[.int .i64 (s + (k : Int)), .int .i64 y]
theorem wks_get {s : Int} {ys : List Int} {k : Nat} {y : Int} (h : ys[k]? = some y) : (wks s ys)[k]? = some #[.int .i64 (s + (k : Int)), .int .i64 y] := by
  unfold wks; rw [List.getElem?_mapIdx, h]; rfl
theorem wks_of {s : Int} {ys : List Int} {k : Nat} {x : Array Value} (h : (wks s ys)[k]? = some x) : ∃ y, ys[k]? = some y ∧ x = #[.int .i64 (s + (k : Int)), .int .i64 y] := by
  unfold wks at h; rw [List.getElem?_mapIdx] at h
  obtain ⟨y, hy, rfl⟩ := Option.map_eq_some_iff.1 h
  exact ⟨y, hy, rfl⟩
theorem wks_len (s : Int) (ys : List Int) : (wks s ys).length = ys.length := by simp [wks]
def WCap (Bt Ba : Nat) (s : Int) (p : Option Addr) (c : Nat) (ys : List Int) (w : World) : Prop := w.cell? ⟨Bt, 0, none⟩ = some (.slice p ys.length c) ∧ w.cell? ⟨Ba, 0, none⟩ = some (.int .i64 s) ∧ Rd w 1 (.slice p ys.length c) ys.length (ys.map (Value.int .i64))
set_option maxRecDepth 100000 in
set_option maxHeartbeats 1000000 in
theorem Walk1_calls (W : World) (Bt Ba : Nat) (s : Int) (p : Option Addr) (c : Nat) (ys : List Int) (r : Nat) (J : Nat → World → Prop) (Jx : World → Prop) (hcap : ∀ k w', J k w' → WCap Bt Ba s p c ys w') (hy : ∀ k x w', J k w' → (wks s ys)[k]? = some x → YieldAt Fence.wide 0 Try.prog r x w' fun e w2 => (e = .returned (.bool true) ∧ J (k + 1) w2) ∨ (e = .returned (.bool false) ∧ Jx w2)) (h0 : J 0 W) (hs : 0 ≤ s) (hs2 : s + ys.length ≤ 9223372036854775800) (hl : ys.length ≤ 1000000) : Calls Try.prog 71 #[.func (.yield r) #[] #[], .pointer (some ⟨Bt, 0, none⟩), .pointer (some ⟨Ba, 0, none⟩)] W fun e w' => (∃ v, e = .returned v) ∧ (J ys.length w' ∨ Jx w') := by
  refine enter Try.func71 rfl rfl rfl (.cons (i := 0) rfl (.cons (i := 1) rfl (.cons (i := 2) rfl .nil))) ?_
  intro a hA
  have hS := Sat.start W
  have hJ := h0
  refine wp_seq_k fun k1 hk1 => ?_
  refine wp_region_lit ?_
  refine go1 hA rfl rfl rfl (r_load (hA.ev rfl) T.fl54 (hcap _ _ hJ).1) ?_; clear hA a; intro a hA
  refine go1 hA rfl rfl rfl (r_lens (hA.ev rfl) T.un54) ?_; clear hA a; intro a hA
  refine go1 hA rfl rfl rfl (r_move (hA.ev rfl)) ?_; clear hA a; intro a hA
  refine wpList_nil ?_
  refine hk1 _ _ ?_
  clear hk1 k1
  replace hA := hA.keep (.cons (i := 0) rfl (.cons (i := 2) rfl (.cons (i := 6) rfl (.cons (i := 7) rfl (.cons (i := 8) rfl .nil)))))
  refine wp_block ?_
  refine wp_loop_ghost (fun (mm : Nat) a w => ∃ (i : Int), Ag a Try.f71.ntmps [(0, .func (.yield r) #[] #[]), (2, .pointer (some ⟨Ba, 0, none⟩)), (6, .slice p ys.length c), (7, .int .i64 ys.length), (8, .int .i64 i)] ∧ J i.toNat w ∧ 0 ≤ i ∧ i ≤ ys.length ∧ mm = (ys.length - i).toNat) ys.length ?_ ?_
  · replace hA := hA.keep (.cons (i := 0) rfl (.cons (i := 2) rfl (.cons (i := 6) rfl (.cons (i := 7) rfl (.cons (i := 8) rfl .nil)))))
    exact ⟨0, hA, hJ, by omega, by omega, by omega⟩
  intro m a w hI
  clear hJ hS; obtain ⟨i, hA, hJ, hi0, hi1, rfl⟩ := hI
  refine wp_seq_k fun k2 hk2 => ?_
  refine wp_region_lit ?_
  refine go1s hA rfl rfl rfl (r_lss (hA.ev rfl) (hA.ev rfl)) ?_ ?_
  · clear hA a; intro h9 a hA
    obtain ⟨q, rfl⟩ : ∃ q, p = some q := (hcap _ _ hJ).2.2.hasAddr (by omega)
    obtain ⟨x, hx⟩ : ∃ x, ys[i.toNat]? = some x := ⟨_, List.getElem?_eq_getElem (by omega)⟩
    try (first | contradiction | (exfalso; omega) | (exfalso; simp at h9; done))
    all_goals
     skip
     refine wpList_nil ?_
     refine hk2 _ _ ?_
     clear hk2 k2
     refine wp_seq_k fun k3 hk3 => ?_
     refine wp_cond_true (hA.ev rfl) ?_
     refine wp_skip ?_
     refine hk3 _ _ ?_
     clear hk3 k3
     refine wp_seq_k fun k4 hk4 => ?_
     refine wp_block ?_
     refine wp_seq_k fun k5 hk5 => ?_
     refine wp_region_lit ?_
     refine go1 hA rfl rfl rfl (r_move (hA.ev rfl)) ?_; clear hA a; intro a hA
     refine go1 hA rfl rfl rfl (r_index (hA.ev rfl) (hA.ev rfl) T.un54 T.sz3 (by omega) (by omega)) ?_; clear hA a; intro a hA
     refine go1 hA rfl rfl rfl (r_load (hA.ev rfl) T.fl3 (rdl (hcap _ _ hJ).2.2 (map_at hx))) ?_; clear hA a; intro a hA
     refine go1 hA rfl rfl rfl (r_assign (hA.ev rfl)) ?_; clear hA a; intro a hA
     refine go1 hA rfl rfl rfl (r_assign (hA.ev rfl)) ?_; clear hA a; intro a hA
     refine wpList_nil ?_
     refine hk5 _ _ ?_
     clear hk5 k5
     refine wp_seq_k fun k6 hk6 => ?_
     refine region_pre (m := 1) [_, _, _, _, _] [_, _] rfl (fun ⟨_, _, hq⟩ => by obtain ⟨⟨_, hq⟩, _⟩ := hq; cases hq) rfl ?_
     refine go1 hA rfl rfl rfl (r_move (hA.ev rfl)) ?_; clear hA a; intro a hA
     refine go1 hA rfl rfl rfl (r_load (hA.ev rfl) T.fl3 (hcap _ _ hJ).2.1) ?_; clear hA a; intro a hA
     refine go1 hA rfl rfl rfl (r_move (hA.ev rfl)) ?_; clear hA a; intro a hA
     refine go1 hA rfl rfl rfl (r_add64 (hA.ev rfl) (hA.ev rfl) (by omega) (by omega)) ?_; clear hA a; intro a hA
     refine go1 hA rfl rfl rfl (r_move (hA.ev rfl)) ?_; clear hA a; intro a hA
     refine wpList_nil ?_
     show wpListIn Fence.wide 1 _ _ _ _ _ _
     refine go_yield hA rfl rfl rfl (hy i.toNat _ _ hJ (by rw [show s + i = s + (i.toNat : Int) from by omega]; exact wks_get hx)) ?_
     clear hA a; rintro e w (⟨rfl, hJ⟩ | ⟨rfl, hJ⟩)
     · skip
       skip
       refine ⟨_, rfl, ?_⟩; intro a hA
       refine list_suf (fun ⟨_, _, hq⟩ => by obtain ⟨⟨_, hq⟩, _⟩ := hq; cases hq) rfl ?_
       refine go1 hA rfl rfl rfl (r_not (hA.ev rfl)) ?_; clear hA a; intro a hA
       refine wpList_nil ?_
       refine hk6 _ _ ?_
       clear hk6 k6
       refine wp_cond_false (hA.ev rfl) ?_
       refine wp_skip ?_
       refine block_normal ?_
       refine hk4 _ _ ?_
       clear hk4 k4
       refine wp_region_lit ?_
       refine go1 hA rfl rfl rfl (r_add64 (hA.ev rfl) (hA.ev rfl) (by omega) (by omega)) ?_; clear hA a; intro a hA
       refine go1 hA rfl rfl rfl (r_move (hA.ev rfl)) ?_; clear hA a; intro a hA
       refine wpList_nil ?_
       replace hA := hA.keep (.cons (i := 0) rfl (.cons (i := 2) rfl (.cons (i := 6) rfl (.cons (i := 7) rfl (.cons (i := 8) rfl .nil)))))
       exact ⟨(ys.length - (i + 1)).toNat, by omega, i + 1, hA, by rw [show (i + 1).toNat = i.toNat + 1 from by omega]; exact hJ, by omega, by omega, rfl⟩
     · skip
       skip
       refine ⟨_, rfl, ?_⟩; intro a hA
       refine list_suf (fun ⟨_, _, hq⟩ => by obtain ⟨⟨_, hq⟩, _⟩ := hq; cases hq) rfl ?_
       refine go1 hA rfl rfl rfl (r_not (hA.ev rfl)) ?_; clear hA a; intro a hA
       refine wpList_nil ?_
       refine hk6 _ _ ?_
       clear hk6 k6
       refine wp_cond_true (hA.ev rfl) ?_
       refine wp_ret ?_
       refine block_ret ?_
       refine then_ret ?_; clear hk4 k4
       refine then_ret ?_
       refine block_ret ?_
       refine end0 hA rfl  ?_
       exact ⟨⟨_, rfl⟩, .inr hJ⟩
  · clear hA a; intro h9 a hA
    try (first | contradiction | (exfalso; omega) | (exfalso; simp at h9; done))
    all_goals
     skip
     refine wpList_nil ?_
     refine hk2 _ _ ?_
     clear hk2 k2
     refine wp_seq_k fun k7 hk7 => ?_
     refine wp_cond_false (hA.ev rfl) ?_
     refine wp_exit ?_
     refine then_exit ?_; clear hk7 k7
     refine then_exit ?_
     refine block_hit ?_
     refine end_n (e := .ret) ?_
     refine end0 hA rfl  ?_
     obtain rfl : i = (ys.length : Int) := by omega
     exact ⟨⟨_, rfl⟩, .inl (by rw [Int.toNat_natCast] at hJ; exact hJ)⟩
end Go.Proofs.Ytmooogahfkgljaa.Wk
