/- Words of our own for walks: chunks pulled by number, regions that are held, elements of one's own rows that are written, conversions, bits, texts. Plain theorems about the model; no condition. -/
import Derived.Test.YtmnekmclpepclaaK13
import Derived.Laws.BytesArg
import Derived.Lib.ConvBytes
import Derived.LoopN
set_option linter.unusedVariables false
set_option linter.unusedSimpArgs false
namespace Go.Proofs.Ytmnekmclpepclaa.K
open Go Go.RowKit
variable {ds : List Deferred}

/-- Chunk n goes to the head. -/
def pullN : Nat → List As → List As
  | 0, L => L
  | _ + 1, [] => []
  | n + 1, A :: L => match pullN n L with
    | [] => [A]
    | B :: L' => B :: A :: L'
theorem pullN_perm : ∀ (n : Nat) (L : List As), L.Perm (pullN n L)
  | 0, L => .refl _
  | n + 1, [] => .refl _
  | n + 1, A :: L => by
    have h := pullN_perm n L
    unfold pullN
    cases hq : pullN n L with
    | nil => rw [hq] at h; exact .cons A h
    | cons B L' => rw [hq] at h; exact (List.Perm.cons A h).trans (.swap ..)
section
variable {W w w' : World} {L M : List As}
theorem Sat.p (s : Sat W w L) (n : Nat) : Sat W w (pullN n L) := s.perm (pullN_perm n L)
theorem Sat.up {W0 w1 : World} {L0 M : List As} (s0 : Sat W0 w L0) (s : Sat w w1 M) : Sat W0 w1 L0 := (s0.rebase s).past
/-- A block of an elder world, read in a world that stands above it. -/
theorem Sat.cellB {W0 w1 : World} {L0 M : List As} {b j : Nat} {cs : Array Value} {t : TypeId} {fr : Nat × Nat} {v : Value} (s0 : Sat W0 w (pto b (.cells cs t fr) :: L0)) (s : Sat w w1 M) (h : nth cs.toList j = some v) : w1.cell? ⟨b, j, none⟩ = some v := by
  have hc := s0.cell (j := j) h
  rw [s.below.cell (World.block_lt_of_cell? _ _ hc)]; exact hc
/-- Only the first chunks stay. -/
theorem holds.take : ∀ {M L : List As} {h : Hp}, holds (M ++ L) h → holds M h
  | [], _, _, _ => trivial
  | _ :: _, _, _, ⟨h1, h2, a, s1, s2, x, y⟩ => ⟨h1, h2, a, s1, s2, x, y.take⟩
theorem Sat.nilTo (s : Sat W w (M ++ L)) (M' : List As) (e : M = M' := by rfl) : Sat W w M' := by
  subst e; exact ⟨s.below, let ⟨h, x, y⟩ := s.own; ⟨h, x.take, y⟩⟩
/-- A world that holds L and perhaps more. -/
def SatE (W : World) (L : List As) (w : World) : Prop := ∃ M, Sat W w (M ++ L)
theorem SatE.sat (h : SatE W L w) : Sat W w L := let ⟨_, hM⟩ := h; hM.past
variable {P : Program} {Q : Exit → Act → World → Prop} {a : Act}
theorem hEnterE {id : Nat} {l : List Oper} (hS : Sat W w L) (hm : P.follows .mixedOrders = true)
    (h : wpAnyH P .any l.toArray Q (SatE W L) l.length (Array.replicate l.length false) a w.drew) : (Code.region id l.toArray true).wp P Q a w :=
  hEnter (SatE W L) hm h
theorem rounds_step {c : Code} {n : Nat} (h : c.wp P (Exit.then (Code.rounds P c Q n) Q) a w) : Code.rounds P c Q (n + 1) a w := h
/-- What is read out of a readable slice. -/
theorem rdl {sz n c k : Nat} {p : Addr} {cs : List Value} {u : Value} (hR : Rd w sz (.slice (some p) n c) n cs) (h : cs[k]? = some u) : w.cell? (p.add k) = some u := hR.cell h
theorem rdl2 {sz n c k j : Nat} {p : Addr} {cs : List Value} {u : Value} (hR : Rd w sz (.slice (some p) n c) n cs) (h : cs[k + j]? = some u) : w.cell? ((p.add k).add j) = some u := by
  rw [add_add]; exact hR.cell h
theorem map_at {α : Type} {f : α → Value} {xs : List α} {i : Nat} {x : α} (h : xs[i]? = some x) : (xs.map f)[i * 1]? = some (f x) := by
  rw [Nat.mul_one, List.getElem?_map, h]; rfl
/-- A cell of a row of one's own is written. -/
theorem Sat.setRow {e sz n c k : Nat} {p : Addr} {cs : List Value} (s : Sat W w (row e sz (.slice (some p) n c) n cs :: L)) (hk : k < cs.length) (v : Value) :
    Sat W (w.setCell (p.add k) v) (row e sz (.slice (some p) n c) n (cs.set k v) :: L) ∧ w.cell? (p.add k) = cs[k]? ∧ w.frozen? (p.add k) = false := by
  obtain ⟨bl, h, ⟨h1, h2, a, s1, s2, q, r⟩, t'⟩ := s
  rcases q with ⟨hv, _⟩ | ⟨b, cap, sp, fr, hv, hn, hcap, hl, hl2, hfr, hb⟩
  · cases hv
  · injection hv with e1 e2 e3
    injection e1 with e1
    subst e1 e3
    have S : Sat W w (pto b (.cells (cs ++ sp).toArray e fr) :: L) := ⟨bl, h, ⟨h1, h2, a, s1, s2, hb, r⟩, t'⟩
    rw [add_lit, Nat.zero_add]
    have hk2 : k < c * sz := by rw [← hl2]; simp; omega
    refine ⟨?_, ?_, S.freeAt hfr hk2⟩
    · have := S.store (j := k) v
      refine this.imp fun h hh => .inr ⟨b, c, sp, fr, rfl, hn, hcap, by simpa using hl, by simpa using hl2, hfr, ?_⟩
      rw [show h b = _ from hh]
      congr 2
      rw [List.setIfInBounds_toArray, List.set_append_left _ _ hk]
    · rw [S.cell0 (v := cs[k]) (by simp [List.getElem?_append_left hk])]
      simp [hk]
end
section
variable {P : Program} {ops : Array Oper} {Q : Exit → Act → World → Prop} {a : Act} {n : Nat} {E : Env} {w w' W : World} {rest : List Oper} {d : Nat}
variable {ty t tx e : TypeId} {ps : String} {af : Array Edge} {x y : Operand} {L : List As}
theorem r_storeR {ρ : Operand → Value} {dd : Option Tmp} {g : Option (Nat × Bool)} {m c sz k : Nat} {p q : Addr} {v : Value} {cs : List Value} (hx : ρ x = .pointer (some q)) (hp : q = p.add k) (hy : ρ y = v) (ht : flat P t = true) (h1 : (P.info? t).map (·.size) = some 1) (hv : v.oneCell' = true)
    (s : Sat W w (row e sz (.slice (some p) m c) m cs :: L)) (hk : k < cs.length) : (execOp ρ ⟨dd, .store t x y, ty, ps, af, g⟩).run P w = .ok .skip (w.setCell (p.add k) v) := by
  subst hp
  obtain ⟨_, h2, h3⟩ := s.setRow hk v
  exact r_store hx hy ht h1 hv (h2.trans (List.getElem?_eq_getElem hk)) h3
/-- A cell of an element of one's own row is written, as a step. -/
theorem goWR {m c sz : Nat} (k : Nat) {p q : Addr} {v : Value} {cs : List Value} (hA : Ag a n E ds) (hx : evo E x = some (.pointer (some q))) (hp : q = p.add k) (hy : evo E y = some v) (ht : flat P t = true) (h1 : (P.info? t).map (·.size) = some 1) (hv : v.oneCell' = true)
    (s : Sat W w (row e sz (.slice (some p) m c) m cs :: L)) (hk : k < cs.length) (kk : ∀ w', Sat W w' (row e sz (.slice (some p) m c) m (cs.set k v) :: L) → wpList P ops Q rest a w') : wpList P ops Q (⟨none, .store t x y, ty, ps, af, none⟩ :: rest) a w :=
  go0 hA rfl rfl (r_storeR (hA.ev hx) hp (hA.ev hy) ht h1 hv s hk) (kk _ (s.setRow hk v).1)
theorem eWR {i : Nat} {K : Act → World → Prop} {m c sz : Nat} (k : Nat) {p q : Addr} {v : Value} {cs : List Value} (hA : Ag a n E ds) (hi' : ops[i]? = some ⟨none, .store t x y, ty, ps, af, none⟩) (hx : evo E x = some (.pointer (some q))) (hp : q = p.add k) (hy : evo E y = some v) (ht : flat P t = true) (h1 : (P.info? t).map (·.size) = some 1) (hv : v.oneCell' = true)
    (s : Sat W w (row e sz (.slice (some p) m c) m cs :: L)) (hk : k < cs.length) (kk : ∀ w', Sat W w' (row e sz (.slice (some p) m c) m (cs.set k v) :: L) → K a w') : wpOp P ops Q i K a w :=
  e0 hA hi' rfl rfl (r_storeR (hA.ev hx) hp (hA.ev hy) ht h1 hv s hk) (kk _ (s.setRow hk v).1)
end
/-! ### conversions, bits -/
section
variable {P : Program} {w : World} {ρ : Operand → Value} {d : Option Tmp} {ty : TypeId} {ps : String} {af : Array Edge} {g : Option (Nat × Bool)}
variable {t yt s : TypeId} {x y : Operand} {a b : Int} {k k' : IntKind}
theorem run_conv_int {u : TypeDesc} (hs : P.underlying s = some u) (ht : P.underlying t = some (.int k')) : (convert s t (.int k a)).run P w = .ok (.int k' (k'.wrap a)) w := by
  unfold convert
  rw [Sem.run_bind, run_underlying hs]
  simp only [Result.andThen_ok]
  rw [Sem.run_bind, run_underlying ht]
  simp only [Result.andThen_ok]
  cases u <;> rfl
theorem r_convw {u : TypeDesc} (hx : ρ x = .int k a) (hs : P.underlying s = some u) (ht : P.underlying t = some (.int k')) : (execOp ρ ⟨d, .convert s t x, ty, ps, af, g⟩).run P w = .ok (.value (.int k' (k'.wrap a))) w := by
  simp [execOp, hx, run_conv_int hs ht, go_sem]
theorem r_conv {u : TypeDesc} (hx : ρ x = .int k a) (hs : P.underlying s = some u) (ht : P.underlying t = some (.int k')) (h0 : k'.min ≤ a) (h1 : a ≤ k'.max) : (execOp ρ ⟨d, .convert s t x, ty, ps, af, g⟩).run P w = .ok (.value (.int k' a)) w := by
  rw [r_convw hx hs ht, wrap_in h0 h1]
theorem r_shlw (hx : ρ x = .int k a) (hy : ρ y = .int k' b) (h0 : 0 ≤ b) : (execOp ρ ⟨d, .binOp .shl t x y yt, ty, ps, af, g⟩).run P w = .ok (.value (.int k (k.wrap (a * 2 ^ (min b.toNat k.bits))))) w := by
  have : ¬ b < 0 := by omega
  simp [execOp, hx, hy, eqGuard, binOp, Op.shift, this, go_sem]
theorem r_shrw (hx : ρ x = .int k a) (hy : ρ y = .int k' b) (h0 : 0 ≤ b) : (execOp ρ ⟨d, .binOp .shr t x y yt, ty, ps, af, g⟩).run P w = .ok (.value (.int k (a.fdiv (2 ^ (min b.toNat k.bits))))) w := by
  have : ¬ b < 0 := by omega
  simp [execOp, hx, hy, eqGuard, binOp, Op.shift, this, go_sem]
theorem r_and (hx : ρ x = .int k a) (hy : ρ y = .int k b) : (execOp ρ ⟨d, .binOp .and t x y yt, ty, ps, af, g⟩).run P w = .ok (.value (.int k (k.wrap (BitVec.ofInt k.bits a &&& BitVec.ofInt k.bits b).toNat))) w := by
  simp [execOp, hx, hy, eqGuard, binOp, Op.intBits, go_sem]
theorem r_or (hx : ρ x = .int k a) (hy : ρ y = .int k b) : (execOp ρ ⟨d, .binOp .or t x y yt, ty, ps, af, g⟩).run P w = .ok (.value (.int k (k.wrap (BitVec.ofInt k.bits a ||| BitVec.ofInt k.bits b).toNat))) w := by
  simp [execOp, hx, hy, eqGuard, binOp, Op.intBits, go_sem]
theorem r_xor (hx : ρ x = .int k a) (hy : ρ y = .int k b) : (execOp ρ ⟨d, .binOp .xor t x y yt, ty, ps, af, g⟩).run P w = .ok (.value (.int k (k.wrap (BitVec.ofInt k.bits a ^^^ BitVec.ofInt k.bits b).toNat))) w := by
  simp [execOp, hx, hy, eqGuard, binOp, Op.intBits, go_sem]
theorem r_quo64 (hx : ρ x = .int .i64 a) (hy : ρ y = .int .i64 b) (hb : 0 < b) (h0 : 0 ≤ a) (h1 : a ≤ 9223372036854775807) : (execOp ρ ⟨d, .binOp .quo t x y yt, ty, ps, af, g⟩).run P w = .ok (.value (.int .i64 (a / b))) w := by
  have e : a.tdiv b = a / b := Int.tdiv_eq_ediv_of_nonneg h0
  have h2 : 0 ≤ a / b := Int.ediv_nonneg h0 (by omega)
  have h3 : a / b ≤ a := Int.ediv_le_self _ h0
  rw [r_quo hx hy (by omega), e, wrap_in (by simp [IntKind.min, IntKind.signed, IntKind.bits]; omega) (by simp [IntKind.max, IntKind.signed, IntKind.bits]; omega)]
theorem r_rem64 (hx : ρ x = .int .i64 a) (hy : ρ y = .int .i64 b) (hb : 0 < b) (h0 : 0 ≤ a) : (execOp ρ ⟨d, .binOp .rem t x y yt, ty, ps, af, g⟩).run P w = .ok (.value (.int .i64 (a % b))) w := by
  rw [r_rem hx hy (by omega), Int.tmod_eq_emod_of_nonneg h0]
end
section
variable {P : Program} {w : World} {ρ : Operand → Value} {d : Option Tmp} {ty : TypeId} {ps : String} {af : Array Edge} {g : Option (Nat × Bool)}
theorem r_ext {x : Operand} {vs : List Value} {i : Nat} {v : Value} (hx : ρ x = .tuple vs.toArray) (hi : nth vs i = some v) : (execOp ρ ⟨d, .extract x i, ty, ps, af, g⟩).run P w = .ok (.value v) w :=
  r_extract hx (by rw [nth_eq] at hi; simpa using hi)
end
section
variable {P : Program} {w : World} {ρ : Operand → Value} {d : Option Tmp} {ty t e : TypeId} {ps : String} {af : Array Edge} {g : Option (Nat × Bool)} {x y : Operand}
/-- An element of an array in memory. -/
theorem r_indexA {b j len sz : Nat} {k : IntKind} {i : Int} (hx : ρ x = .pointer (some ⟨b, j, none⟩)) (hy : ρ y = .int k i) (ht : P.underlying t = some (.array len e)) (hz : (P.info? e).map (·.size) = some sz) (h0 : 0 ≤ i) (h1 : i < len) :
    (execOp ρ ⟨d, .indexAddr t x y, ty, ps, af, g⟩).run P w = .ok (.value (.pointer (some ⟨b, j + i.toNat * sz, none⟩))) w := by
  obtain ⟨q, hq, rfl⟩ := Option.map_eq_some_iff.1 hz
  simp [execOp, hx, hy, Instr.indexAt, run_underlying ht, asIntOf, Instr.sureAddr, sizeOf, typeInfo, hq, h0, h1, go_sem]
end
section
variable {P : Program} {ops : Array Oper} {Q : Exit → Act → World → Prop} {a : Act} {n : Nat} {E : Env} {w w' W : World} {rest : List Oper}
variable {ty t : TypeId} {ps : String} {af : Array Edge} {x y : Operand} {L : List As}
/-- A store into a block whose cells are written out. -/
theorem goW2 {b j : Nat} {v u : Value} {cs cs' : List Value} {t' : TypeId} (hA : Ag a n E ds) (hx : evo E x = some (.pointer (some ⟨b, j, none⟩))) (hy : evo E y = some v) (ht : flat P t = true) (h1 : (P.info? t).map (·.size) = some 1) (hv : v.oneCell' = true)
    (s : Sat W w (pto b (.cells cs.toArray t' (0, 0)) :: L)) (hj : nth cs j = some u) (hc : cs.set j v = cs') (k : ∀ w', Sat W w' (pto b (.cells cs'.toArray t' (0, 0)) :: L) → wpList P ops Q rest a w') : wpList P ops Q (⟨none, .store t x y, ty, ps, af, none⟩ :: rest) a w := by
  subst hc
  refine goW hA hx hy ht h1 hv s (u := u) (by simpa using hj) fun w' h => k w' ?_
  simpa using h
theorem eW2 {i : Nat} {K : Act → World → Prop} {b j : Nat} {v u : Value} {cs cs' : List Value} {t' : TypeId} (hA : Ag a n E ds) (hi' : ops[i]? = some ⟨none, .store t x y, ty, ps, af, none⟩) (hx : evo E x = some (.pointer (some ⟨b, j, none⟩))) (hy : evo E y = some v) (ht : flat P t = true) (h1 : (P.info? t).map (·.size) = some 1) (hv : v.oneCell' = true)
    (s : Sat W w (pto b (.cells cs.toArray t' (0, 0)) :: L)) (hj : nth cs j = some u) (hc : cs.set j v = cs') (k : ∀ w', Sat W w' (pto b (.cells cs'.toArray t' (0, 0)) :: L) → K a w') : wpOp P ops Q i K a w := by
  subst hc
  refine eW hA hi' hx hy ht h1 hv s (u := u) (by simpa using hj) fun w' h => k w' ?_
  simpa using h
theorem goWS2 {b o : Nat} {vs cs cs' : List Value} {t' : TypeId} (hA : Ag a n E ds) (hx : evo E x = some (.pointer (some ⟨b, o, none⟩))) (hy : evo E y = some (.agg vs.toArray)) (h1 : (P.info? t).map (·.size) = some vs.length) (hv : ∀ v ∈ vs, v.oneCell' = true)
    (s : Sat W w (pto b (.cells cs.toArray t' (0, 0)) :: L)) (hl : Nat.ble (o + vs.length) cs.length = true) (hc : cs.take o ++ vs ++ cs.drop (o + vs.length) = cs')
    (k : ∀ w', Sat W w' (pto b (.cells cs'.toArray t' (0, 0)) :: L) → wpList P ops Q rest a w') : wpList P ops Q (⟨none, .store t x y, ty, ps, af, none⟩ :: rest) a w := by
  subst hc
  exact goWS hA hx hy h1 hv s (Nat.le_of_ble_eq_true hl) k
theorem eWS2 {i : Nat} {K : Act → World → Prop} {b o : Nat} {vs cs cs' : List Value} {t' : TypeId} (hA : Ag a n E ds) (hi' : ops[i]? = some ⟨none, .store t x y, ty, ps, af, none⟩) (hx : evo E x = some (.pointer (some ⟨b, o, none⟩))) (hy : evo E y = some (.agg vs.toArray)) (h1 : (P.info? t).map (·.size) = some vs.length) (hv : ∀ v ∈ vs, v.oneCell' = true)
    (s : Sat W w (pto b (.cells cs.toArray t' (0, 0)) :: L)) (hl : Nat.ble (o + vs.length) cs.length = true) (hc : cs.take o ++ vs ++ cs.drop (o + vs.length) = cs')
    (k : ∀ w', Sat W w' (pto b (.cells cs'.toArray t' (0, 0)) :: L) → K a w') : wpOp P ops Q i K a w := by
  subst hc
  exact eWS hA hi' hx hy h1 hv s (Nat.le_of_ble_eq_true hl) k
end
/-! ### texts and bytes -/
def bcell (b : UInt8) : Value := .int .u8 (b.toNat : Int)
/-- A byte out of a number. -/
def b8 (x : Int) : UInt8 := UInt8.ofNat x.toNat
theorem b8_val {x : Int} (h0 : 0 ≤ x) (h1 : x ≤ 255) : ((b8 x).toNat : Int) = x := by
  unfold b8; simp [UInt8.toNat_ofNat']; omega
theorem bcell_b8 {x : Int} (h0 : 0 ≤ x) (h1 : x ≤ 255) : Value.int .u8 x = bcell (b8 x) := by unfold bcell; rw [b8_val h0 h1]
theorem bcell_one (b : UInt8) : (bcell b).oneCell' = true := rfl
theorem bcells_one (bs : List UInt8) : ∀ u ∈ bs.map bcell, u.oneCell' = true := fun u hu => by
  obtain ⟨b, _, rfl⟩ := List.mem_map.1 hu; rfl
theorem b8_of (b : UInt8) : b8 (b.toNat : Int) = b := by unfold b8; simp
theorem byteCells_eq (s : ByteArray) : byteCells s = s.data.toList.map bcell := rfl
theorem len_toList (s : ByteArray) : s.data.toList.length = s.size := rfl
theorem str_ext {s t : ByteArray} (h : s.data.toList = t.data.toList) : s = t := by
  cases s; cases t; simp at h; simp [h]
section
variable {P : Program} {w : World} {ρ : Operand → Value} {d : Option Tmp} {ty : TypeId} {ps : String} {af : Array Edge} {g : Option (Nat × Bool)}
variable {t yt s : TypeId} {x y : Operand} {bs : List UInt8} {n : Nat} {v : Value}
/-- string(b). -/
theorem r_b2s {src e : TypeId} (hx : ρ x = v) (hs : P.underlying src = some (.slice e)) (he : P.underlying e = some (.int .u8)) (ht : P.underlying t = some .string) (hR : Rd w 1 v n (bs.map bcell)) :
    (execOp ρ ⟨d, .convert src t x, ty, ps, af, g⟩).run P w = .ok (.value (.string ⟨bs.toArray⟩)) w := by
  have hstr : strOfNums (bs.map fun b => (b.toNat : Int)) = ⟨bs.toArray⟩ := by
    simp only [strOfNums, List.map_map]
    congr 1
    rw [show ((fun n : Int => UInt8.ofNat n.toNat) ∘ fun b : UInt8 => (b.toNat : Int)) = id from by funext b; simp]
    simp
  have hrun : (convert src t v).run P w = .ok (.string ⟨bs.toArray⟩) w := by
    obtain ⟨A, c, hv, hc, hl, h⟩ := hR
    subst hv
    simp only [List.length_map, Nat.mul_one] at hl
    have nilcase : ∀ l, n = 0 → (convert src t (.slice (some l) n c)).run P w = .ok (.string ⟨bs.toArray⟩) w := fun l h0 => by
      have hb0 : bs = [] := List.eq_nil_of_length_eq_zero (by omega)
      subst hb0 h0
      rw [run_convert_bytes_string w src t e _ 0 c hs he ht]
      have hlc : (loadCells l 0).run P w = .ok ([] : List Value).toArray w := by
        have := run_loadCells_list (P := P) w l [] (fun j u hj => by simp at hj)
        simpa using this
      rw [run_bytesToString w l 0 c [] (by simpa using hlc)]
      rfl
    cases A with
    | none =>
      have h0 : n = 0 := by
        rcases h with h | ⟨p, hp, _⟩
        · exact h
        · cases hp
      subst h0
      obtain rfl : bs = [] := List.eq_nil_of_length_eq_zero hl
      exact run_convert_bytes_nil w src e hs he 0 c t ht
    | some l =>
      rcases h with h0 | ⟨p, hp, hh⟩
      · exact nilcase l h0
      · injection hp with hp
        subst hp
        have hlc : (loadCells l n).run P w = .ok (bs.map bcell).toArray w := by
          have := run_loadCells_list (P := P) w l (bs.map bcell) hh
          simpa [hl] using this
        rw [run_convert_bytes_string w src t e _ n c hs he ht, run_bytesToString w l n c (bs.map fun b => (b.toNat : Int)) (by rw [hlc]; simp [bcell, Function.comp_def]), foldl_push_bytes, ← hstr]
        simp [strOfNums, ByteArray.empty, ByteArray.emptyWithCapacity]
        rfl
  simp [execOp, hx, hrun, go_sem]
/-- Texts held against one another, by their letters. -/
theorem r_eqsl {a b : ByteArray} (hx : ρ x = .string a) (hy : ρ y = .string b) : (execOp ρ ⟨d, .binOp .eql t x y yt, ty, ps, af, g⟩).run P w = .ok (.value (.bool (decide (a = b)))) w := by
  rw [r_eqs hx hy]
  congr 3
  rw [Bool.eq_iff_iff]
  simp only [beq_iff_eq, decide_eq_true_eq]
  exact ⟨fun h => str_ext (by simpa [ByteArray.toList_eq] using h), fun h => by rw [h]⟩
theorem r_nesl {a b : ByteArray} (hx : ρ x = .string a) (hy : ρ y = .string b) : (execOp ρ ⟨d, .binOp .neq t x y yt, ty, ps, af, g⟩).run P w = .ok (.value (.bool (decide (a ≠ b)))) w := by
  rw [r_nes hx hy]
  congr 3
  rw [Bool.eq_iff_iff]
  simp only [Bool.not_eq_true', decide_eq_true_eq, ne_eq, beq_eq_false_iff_ne]
  exact ⟨fun h h' => h (by rw [h']), fun h h' => h (str_ext (by simpa [ByteArray.toList_eq] using h'))⟩
end
section
variable {P : Program} {ops : Array Oper} {Q : Exit → Act → World → Prop} {a : Act} {n : Nat} {E : Env} {w w' W : World} {rest : List Oper} {d : Nat}
variable {ty t src e : TypeId} {ps : String} {af : Array Edge} {g : Option (Nat × Bool)} {x y : Operand} {L : List As}
/-- []byte(s): a row of one's own. -/
theorem s2b {s : ByteArray} {u : TypeDesc} (hs : P.underlying src = some u) (ht : P.underlying t = some (.slice e)) (he : P.underlying e = some (.int .u8)) (hl : s.size ≤ 140737488355328) (S : Sat W w L) :
    ∃ A c w', (convert src t (.string s)).run P w = .ok (.slice A s.size c) w' ∧ s.size ≤ c ∧ Sat W w' (row e 1 (.slice A s.size c) s.size (s.data.toList.map bcell) :: L) := by
  have hg := grownCap_le w s.size 0 e (by omega)
  refine ⟨_, _, _, Lib.run_convert_string_bytes w src t e s hs ht he, hg.1, ?_⟩
  generalize hcap : grownCap w s.size 0 e = cap at hg
  have hcells : Lib.bytesCells w e s = (s.data.toList.map bcell ++ List.replicate (cap - s.size) (Value.int .u8 0)).toArray := by
    unfold Lib.bytesCells
    rw [hcap]
    apply Array.ext'
    simp
    intro a _; rfl
  have hsz : (Lib.bytesCells w e s).size = cap := by
    rw [hcells]; simp only [List.size_toArray, List.length_append, List.length_map, List.length_replicate, len_toList]; omega
  obtain ⟨bl, h, r, t'⟩ := S
  have hnew := Lib.bytesWorld_at_new w e s
  have hsize := Lib.bytesWorld_size w e s
  have hold := Lib.bytesWorld_at_old w e s
  have hbl : Below W.heap.size w (Lib.bytesWorld w e s) := by
    refine ⟨rfl, rfl, rfl, ?_, fun i hi => ?_⟩
    · rw [hsize]; omega
    · exact hold i (Nat.lt_of_lt_of_le hi bl.size)
  have hfresh : h w.heap.size = none := by
    cases e' : h w.heap.size with
    | none => rfl
    | some u => have := (t' _ _ e').2; rw [Array.getElem?_eq_none (Nat.le_refl _)] at this; cases this
  refine ⟨bl.trans hbl, fun k => if k = w.heap.size then some (.cells (Lib.bytesCells w e s) e ((Lib.bytesCells w e s).size, (Lib.bytesCells w e s).size + 1)) else h k,
    ⟨fun k => if k = w.heap.size then some (.cells (Lib.bytesCells w e s) e ((Lib.bytesCells w e s).size, (Lib.bytesCells w e s).size + 1)) else none, h, fun k => ?_, fun k u e => ?_, fun k u e => ?_, ?_, r⟩, fun k u e => ?_⟩
  · by_cases hk : k = w.heap.size
    · subst hk; exact .inr hfresh
    · simp [hk]
  · by_cases hk : k = w.heap.size
    · simpa [hk] using e
    · simp [hk] at e
  · by_cases hk : k = w.heap.size
    · subst hk; rw [hfresh] at e; cases e
    · simpa [hk] using e
  · refine .inr ⟨w.heap.size, cap, List.replicate (cap - s.size) (Value.int .u8 0), ((Lib.bytesCells w e s).size, (Lib.bytesCells w e s).size + 1), rfl, hg.1, hg.2, by simp only [List.length_map, Nat.mul_one]; rfl, ?_, .inr (by simp [hsz]), ?_⟩
    · simp only [List.length_append, List.length_map, List.length_replicate, len_toList]; omega
    · simp [hcells]
  · by_cases hk : k = w.heap.size
    · subst hk; simp at e; subst e
      exact ⟨bl.size, hnew⟩
    · simp [hk] at e
      obtain ⟨p, q⟩ := t' k u e
      exact ⟨p, by rw [hold k (Array.getElem?_eq_some_iff.1 q).1]; exact q⟩
theorem execConv {ρ : Operand → Value} {dd : Option Tmp} {v r : Value} (hx : ρ x = v) (h : (convert src t v).run P w = .ok r w') : (execOp ρ ⟨dd, .convert src t x, ty, ps, af, g⟩).run P w = .ok (.value r) w' := by
  have he : execOp ρ ⟨dd, .convert src t x, ty, ps, af, g⟩ = (convert src t (ρ x)).bind fun r => Sem.pure (Next.value r) := rfl
  rw [he, hx, Sem.run_bind', h]
  rfl
theorem goS2B {s : ByteArray} {u : TypeDesc} (hA : Ag a n E ds) (hn : Nat.blt d n = true) (hx : evo E x = some (.string s)) (hs : P.underlying src = some u) (ht : P.underlying t = some (.slice e)) (he : P.underlying e = some (.int .u8)) (hl : s.size ≤ 140737488355328) (S : Sat W w L)
    (k : ∀ A c w', s.size ≤ c → Sat W w' (row e 1 (.slice A s.size c) s.size (s.data.toList.map bcell) :: L) → ∀ a', Ag a' n ((d, .slice A s.size c) :: E) ds → wpList P ops Q rest a' w') :
    wpList P ops Q (⟨some d, .convert src t x, ty, ps, af, none⟩ :: rest) a w := by
  obtain ⟨A, c, w', hr, hc, S'⟩ := s2b hs ht he hl S
  exact go1 hA rfl rfl hn (execConv (hA.ev hx) hr) (k A c w' hc S')
theorem eS2B {i : Nat} {K : Act → World → Prop} {s : ByteArray} {u : TypeDesc} (hA : Ag a n E ds) (hi' : ops[i]? = some ⟨some d, .convert src t x, ty, ps, af, none⟩) (hn : Nat.blt d n = true) (hx : evo E x = some (.string s)) (hs : P.underlying src = some u) (ht : P.underlying t = some (.slice e)) (he : P.underlying e = some (.int .u8)) (hl : s.size ≤ 140737488355328) (S : Sat W w L)
    (k : ∀ A c w', s.size ≤ c → Sat W w' (row e 1 (.slice A s.size c) s.size (s.data.toList.map bcell) :: L) → ∀ a', Ag a' n ((d, .slice A s.size c) :: E) ds → K a' w') : wpOp P ops Q i K a w := by
  obtain ⟨A, c, w', hr, hc, S'⟩ := s2b hs ht he hl S
  exact e1 hA hi' rfl rfl hn (execConv (hA.ev hx) hr) (k A c w' hc S')
end
end Go.Proofs.Ytmnekmclpepclaa.K
