/- The walk of wire.Read: what it is handed is called, its error is told. Conditions: bytes of at most 2 to the 47. -/
import Derived.Test.YtmnekmclpepclaaPWire7
set_option linter.unusedVariables false
set_option linter.unusedSimpArgs false
namespace Go.Proofs.Ytmnekmclpepclaa.Wk
open Go Go.RowKit Go.Proofs.Ytmnekmclpepclaa Go.Proofs.Ytmnekmclpepclaa.K
open K.D
/-- Read's error. -/
def finR (ok : Bool) (err at_ : Int) (n : Nat) : Int := if err ≠ 0 then err else if ok = false then 8 else if at_ < n then 52 else 0
theorem finR_t {ok : Bool} {err at_ : Int} {n : Nat} (h : ok = true) : finR ok err at_ n = if err ≠ 0 then err else if at_ < n then 52 else 0 := by subst h; simp [finR]
theorem finR_f {ok : Bool} {err at_ : Int} {n : Nat} (h : ok = false) : finR ok err at_ n = if err ≠ 0 then err else 8 := by subst h; simp [finR]
/-- How a call of what Read is handed ends: it comes back, or it panics with its reader's word, or with another. -/
def OutR (r : Nat) (ok : Bool) (e : Ending) : Prop := (ok = true ∧ e = .returned (.tuple #[])) ∨ (ok = false ∧ (Pan (.iface 102 (.agg #[.pointer (some ⟨r, 0, none⟩)])) e ∨ ∃ (tx : TypeId) (vx : Value), tx ≠ 102 ∧ Pan (.iface tx vx) e))
theorem dropW : ∀ (l : List PanicEntry), l.all (fun x => !x.goexit) = true → l.dropWhile (fun x => !x.goexit) = []
  | [], _ => rfl
  | x :: l, h => by
    simp only [List.all_cons, Bool.and_eq_true] at h
    rw [List.dropWhile_cons, if_pos h.1, dropW l h.2]
theorem settleR {v : Value} {older : List PanicEntry} (ho : older.all (fun x => !x.goexit) = true) : settle (.panicking ({ v := v, recovered := true } :: older)) = .returning := by
  simp only [settle]
  rw [dropW older ho]
theorem recR {v : Value} {older : List PanicEntry} (c₀ : Frame) (cs : List Frame) (hc : c₀.mode = .panicking ({ v := v, recovered := false } :: older)) : recoverD (c₀ :: cs) = some (v, { c₀ with mode := .panicking ({ v := v, recovered := true } :: older) } :: cs) := by
  simp only [recoverD, hc]
theorem recN (c₀ : Frame) (cs : List Frame) (hc : c₀.mode = .returning) : recoverD (c₀ :: cs) = none := by
  simp only [recoverD, hc]
set_option maxRecDepth 100000 in
set_option maxHeartbeats 1000000 in
theorem Read_calls (W w : World) (L : List As) (A : Option Addr) (c : Nat) (bs : List UInt8) (Φ : Nat → Int → Int → Bool → List As → Prop) (fid : Nat) (caps : List Value) (hS : Sat W w (L)) (hb : bs.length ≤ 140737488355328) (hen : enters Try.prog fid = true) (hcl : ∀ (w : World) (r q p : Nat), Sat W w (rdc r A c bs 0 true 0 :: cellP q r :: cellE p 0 :: L) → Calls Try.prog fid ([Value.pointer (some ⟨r, 0, none⟩)] ++ caps).toArray w fun e w' => ∃ (at' err : Int) (ok : Bool) (M : List As), OutR r ok e ∧ Sat W w' (rdc r A c bs at' true err :: cellP q r :: cellE p 0 :: M) ∧ Φ r at' err ok M) : Calls Try.prog 26 #[.slice A bs.length c, .func (.func fid) #[] caps.toArray] w fun e w' => ∃ (r q p : Nat) (at' err : Int) (ok : Bool) (M : List As), e = .returned (.int .i64 (finR ok err at' bs.length)) ∧ Sat W w' (dead r at' err :: cellP q r :: cellE p (finR ok err at' bs.length) :: M) ∧ Φ r at' err ok M := by
  refine enterDf Try.func26 rfl rfl rfl (.cons (i := 0) rfl (.cons (i := 1) rfl .nil)) ?_
  intro a hA
  refine wp_seq_k fun k1 hk1 => ?_
  refine wp_region_lit ?_
  refine goN hA rfl T.zv23 hS ?_
  clear hA a hS; intro b4 w hS a hA
  refine wpList_nil ?_
  refine hk1 _ _ ?_
  clear hk1 k1
  refine wp_seq_k fun k2 hk2 => ?_
  refine wp_region_lit ?_
  refine go1 hA rfl rfl rfl (r_move (hA.ev rfl)) ?_; clear hA a; intro a hA
  refine go1 hA rfl rfl rfl (r_build hA rfl T.bd100_0_2) ?_; clear hA a; intro a hA
  refine goB hA rfl rfl hS ?_
  clear hA a hS; intro b8 w hS a hA
  refine goN hA rfl T.zv60 hS ?_
  clear hA a hS; intro b5 w hS a hA
  first | refine goW hA rfl rfl T.fl60 T.sz60 rfl hS rfl ?_ | refine goW hA rfl rfl T.fl60 T.sz60 rfl (hS.p 1) rfl ?_ | refine goW hA rfl rfl T.fl60 T.sz60 rfl (hS.p 2) rfl ?_
  clear hS; intro w hS
  refine wpList_nil ?_
  refine hk2 _ _ ?_
  clear hk2 k2
  replace hA := hA.keep (.cons (i := 1) rfl (.cons (i := 4) rfl (.cons (i := 5) rfl .nil)))
  refine wp_seq_k fun k3 hk3 => ?_
  refine wp_region_lit ?_
  refine go1 hA rfl rfl rfl (r_mkF (hA.evl rfl)) ?_; clear hA a; intro a hA
  refine goDefer hA rfl ?_; clear hA a; intro a hA
  refine wpList_nil ?_
  refine hk3 _ _ ?_
  clear hk3 k3
  replace hA := hA.keep (.cons (i := 1) rfl (.cons (i := 4) rfl (.cons (i := 5) rfl .nil)))
  refine wp_seq_k fun k4 hk4 => ?_
  refine wp_seq_k fun k5 hk5 => ?_
  refine wp_region_lit ?_
  refine go1 hA rfl rfl rfl (r_move (hA.ev rfl)) ?_; clear hA a; intro a hA
  refine go1 hA rfl rfl rfl (r_neqF (hA.ev rfl) (hA.ev rfl) (isFunc_get T.uf61).choose_spec.choose_spec.choose_spec) ?_; clear hA a; intro a hA
  refine wpList_nil ?_
  refine hk5 _ _ ?_
  clear hk5 k5
  replace hA := hA.keep (.cons (i := 1) rfl (.cons (i := 4) rfl (.cons (i := 5) rfl (.cons (i := 11) rfl .nil))))
  refine wp_cond_true (hA.ev rfl) ?_
  refine wp_region_lit ?_
  refine go1 hA rfl rfl rfl (r_move (hA.ev rfl)) ?_; clear hA a; intro a hA
  refine go1 hA rfl rfl rfl (r_load (hA.ev rfl) T.fl60 (by first | exact hS.cell rfl | exact (hS.p 1).cell rfl | exact (hS.p 2).cell rfl)) ?_; clear hA a; intro a hA
  refine goVP hA rfl hen rfl rfl (hcl _ b8 b5 b4 hS.pull1) ?_
  obtain ⟨r, hr⟩ : ∃ r, r = b8 := ⟨_, rfl⟩; obtain ⟨q, hq⟩ : ∃ q, q = b5 := ⟨_, rfl⟩; obtain ⟨p, hp⟩ : ∃ p, p = b4 := ⟨_, rfl⟩; subst hr hq hp; clear hS; rintro e w ⟨at', err, ok, M, (⟨hok, rfl⟩ | ⟨hok, (⟨older, rfl, ho⟩ | ⟨tx, vx, htx, older, rfl, ho⟩)⟩), hS, hΦ⟩
  · skip
    change Sat W w (pto r (.cells #[.slice A bs.length c, .int .i64 at', .bool true, .int .i64 err] 100) :: pto q (.cells #[.pointer (some ⟨r, 0, none⟩)] 60) :: pto p (.cells #[.int .i64 0] 23) :: M) at hS
    refine .inl ⟨_, rfl, ?_⟩; clear hA a; intro a hA
    refine wpList_nil ?_
    refine hk4 _ _ ?_
    clear hk4 k4
    replace hA := hA.keep (.cons (i := 4) rfl .nil)
    refine wp_seq_k fun k6 hk6 => ?_
    refine wp_region_lit ?_
    first | refine goW hA rfl rfl T.fl23 T.sz23 rfl (hS.p 2) rfl ?_
    clear hS; intro w hS
    refine wpList_nil ?_
    refine hk6 _ _ ?_
    clear hk6 k6
    refine wp_ret ?_
    replace hS := ((hS.p 2).p 2)
    exact read_leaves W w M r q p at' err .nilIface .returning .returning (by simp) (fun c₀ cs hc => .inr ⟨recN c₀ cs hc, rfl, rfl⟩) rfl (finR ok err at' bs.length) (fun a hA => by have hh := read1_nil W w M r q p A bs.length c at' err 0 true hb a hA hS; rw [finR_t hok]; exact hh) hA rfl (fun w' hS => ⟨r, q, p, at', err, ok, M, by first | rfl | (unfold finR; simp [hok]), hS, hΦ⟩)
  · skip
    refine .inr ⟨_, rfl, ?_⟩
    refine then_panic ?_; clear hk4 k4
    change Sat W w (pto r (.cells #[.slice A bs.length c, .int .i64 at', .bool true, .int .i64 err] 100) :: pto q (.cells #[.pointer (some ⟨r, 0, none⟩)] 60) :: pto p (.cells #[.int .i64 0] 23) :: M) at hS; exact read_leaves W w M r q p at' err (.iface 102 (.agg #[.pointer (some ⟨r, 0, none⟩)])) (.panicking ({ v := (.iface 102 (.agg #[.pointer (some ⟨r, 0, none⟩)])), recovered := false } :: older)) (.panicking ({ v := (.iface 102 (.agg #[.pointer (some ⟨r, 0, none⟩)])), recovered := true } :: older)) (by simp) (fun c₀ cs hc => .inl (recR c₀ cs hc)) (settleR ho) (finR ok err at' bs.length) (fun a hA => by have hh := read1_own W w M r q p A bs.length c at' err 0 true hb a hA hS; rw [finR_f hok]; exact hh) hA rfl (fun w' hS => ⟨r, q, p, at', err, ok, M, by first | rfl | (unfold finR; simp [hok]), hS, hΦ⟩)
  · skip
    refine .inr ⟨_, rfl, ?_⟩
    refine then_panic ?_; clear hk4 k4
    change Sat W w (pto r (.cells #[.slice A bs.length c, .int .i64 at', .bool true, .int .i64 err] 100) :: pto q (.cells #[.pointer (some ⟨r, 0, none⟩)] 60) :: pto p (.cells #[.int .i64 0] 23) :: M) at hS; exact read_leaves W w M r q p at' err (.iface tx vx) (.panicking ({ v := (.iface tx vx), recovered := false } :: older)) (.panicking ({ v := (.iface tx vx), recovered := true } :: older)) (by simp) (fun c₀ cs hc => .inl (recR c₀ cs hc)) (settleR ho) (finR ok err at' bs.length) (fun a hA => by have hh := read1_other W w M r q p A bs.length c at' err 0 true tx vx htx hb a hA hS; rw [finR_f hok]; exact hh) hA rfl (fun w' hS => ⟨r, q, p, at', err, ok, M, by first | rfl | (unfold finR; simp [hok]), hS, hΦ⟩)
set_option maxRecDepth 100000 in
set_option maxHeartbeats 1000000 in
theorem Read_nil (W w : World) (L : List As) (A : Option Addr) (c : Nat) (bs : List UInt8) (hS : Sat W w (L)) (hb : bs.length ≤ 140737488355328)  : Calls Try.prog 26 #[.slice A bs.length c, .nilFunc] w fun e w' => e = .returned (.int .i64 (finR true 0 0 bs.length)) ∧ Sat W w' L := by
  refine enterDf Try.func26 rfl rfl rfl (.cons (i := 0) rfl (.cons (i := 1) rfl .nil)) ?_
  intro a hA
  refine wp_seq_k fun k1 hk1 => ?_
  refine wp_region_lit ?_
  refine goN hA rfl T.zv23 hS ?_
  clear hA a hS; intro b4 w hS a hA
  refine wpList_nil ?_
  refine hk1 _ _ ?_
  clear hk1 k1
  refine wp_seq_k fun k2 hk2 => ?_
  refine wp_region_lit ?_
  refine go1 hA rfl rfl rfl (r_move (hA.ev rfl)) ?_; clear hA a; intro a hA
  refine go1 hA rfl rfl rfl (r_build hA rfl T.bd100_0_2) ?_; clear hA a; intro a hA
  refine goB hA rfl rfl hS ?_
  clear hA a hS; intro b8 w hS a hA
  refine goN hA rfl T.zv60 hS ?_
  clear hA a hS; intro b5 w hS a hA
  first | refine goW hA rfl rfl T.fl60 T.sz60 rfl hS rfl ?_ | refine goW hA rfl rfl T.fl60 T.sz60 rfl (hS.p 1) rfl ?_ | refine goW hA rfl rfl T.fl60 T.sz60 rfl (hS.p 2) rfl ?_
  clear hS; intro w hS
  refine wpList_nil ?_
  refine hk2 _ _ ?_
  clear hk2 k2
  replace hA := hA.keep (.cons (i := 1) rfl (.cons (i := 4) rfl (.cons (i := 5) rfl .nil)))
  refine wp_seq_k fun k3 hk3 => ?_
  refine wp_region_lit ?_
  refine go1 hA rfl rfl rfl (r_mkF (hA.evl rfl)) ?_; clear hA a; intro a hA
  refine goDefer hA rfl ?_; clear hA a; intro a hA
  refine wpList_nil ?_
  refine hk3 _ _ ?_
  clear hk3 k3
  replace hA := hA.keep (.cons (i := 1) rfl (.cons (i := 4) rfl (.cons (i := 5) rfl .nil)))
  refine wp_seq_k fun k4 hk4 => ?_
  refine wp_seq_k fun k5 hk5 => ?_
  refine wp_region_lit ?_
  refine go1 hA rfl rfl rfl (r_move (hA.ev rfl)) ?_; clear hA a; intro a hA
  refine go1 hA rfl rfl rfl (r_neqF0 (hA.ev rfl) (hA.ev rfl) (isFunc_get T.uf61).choose_spec.choose_spec.choose_spec) ?_; clear hA a; intro a hA
  refine wpList_nil ?_
  refine hk5 _ _ ?_
  clear hk5 k5
  replace hA := hA.keep (.cons (i := 1) rfl (.cons (i := 4) rfl (.cons (i := 5) rfl (.cons (i := 11) rfl .nil))))
  refine wp_cond_false (hA.ev rfl) ?_
  refine wp_skip ?_
  refine hk4 _ _ ?_
  clear hk4 k4
  replace hA := hA.keep (.cons (i := 4) rfl .nil)
  refine wp_seq_k fun k6 hk6 => ?_
  refine wp_region_lit ?_
  first | refine goW hA rfl rfl T.fl23 T.sz23 rfl (hS.p 2) rfl ?_
  clear hS; intro w hS
  refine wpList_nil ?_
  refine hk6 _ _ ?_
  clear hk6 k6
  refine wp_ret ?_
  obtain ⟨r, hr⟩ : ∃ r, r = b8 := ⟨_, rfl⟩; obtain ⟨q, hq⟩ : ∃ q, q = b5 := ⟨_, rfl⟩; obtain ⟨p, hp⟩ : ∃ p, p = b4 := ⟨_, rfl⟩; subst hr hq hp; replace hS := ((hS.p 1).p 2); change Sat W w (pto r (.cells #[.slice A bs.length c, .int .i64 0, .bool true, .int .i64 0] 100) :: pto q (.cells #[.pointer (some ⟨r, 0, none⟩)] 60) :: pto p (.cells #[.int .i64 0] 23) :: L) at hS
  exact read_leaves W w L r q p 0 0 .nilIface .returning .returning (by simp) (fun c₀ cs hc => .inr ⟨recN c₀ cs hc, rfl, rfl⟩) rfl (finR true 0 0 bs.length) (fun a hA => by have hh := read1_nil W w L r q p A bs.length c 0 0 0 true hb a hA hS; rw [finR_t rfl]; exact hh) hA rfl (fun w' hS => ⟨rfl, hS.drop.drop.drop⟩)
end Go.Proofs.Ytmnekmclpepclaa.Wk
