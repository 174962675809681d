/- Texts of our own that a row leans on, put together: K24, K25, T. No condition of their own. -/
import Derived.Test.YtfbdcllbgfohdaaMRowMailKeeps1
set_option linter.unusedVariables false
set_option linter.unusedSimpArgs false
namespace Go.Proofs.Ytfbdcllbgfohdaa.K
open Go Go.RowKit
variable {ds : List Deferred}
section
variable {P : Program} {ops : Array Oper} {Q : Exit → Act → World → Prop} {a : Act} {n : Nat} {E : Env} {w w' W : World} {rest : List Oper} {d : Nat}
variable {ty t e tx : TypeId} {ps : String} {af : Array Edge} {x y : Operand} {L : List As}
/-- A call that may panic, where the order is drawn. -/
theorem eFP {i : Nat} {K : Act → World → Prop} {f : Nat} {l : List Operand} {tys : Array TypeId} {vs : List Value} {R : Ending → World → Prop} (hA : Ag a n E ds) (hi : ops[i]? = some ⟨some d, .call { callee := .value (.func f), args := l.toArray, argTypes := tys }, ty, ps, af, none⟩)
 (hn : Nat.blt d n = true) (hf : enters P f = true) (hv : evl E l = some vs) (hc : Calls P f vs.toArray w R) (k : ∀ e w', R e w' → (∃ v, e = .returned v ∧ ∀ a', Ag a' n ((d, v) :: E) ds → K a' w') ∨ (∃ ch, e = .panicked ch ∧ Q (.panic ch) a w')) : wpOp P ops Q i K a w := by
 unfold wpOp
 simp only [hi]
 rw [if_pos (by simp [Region.wanted])]
 refine .inl ?_
 simp only [Oper.wp, r_callE hA hf hv, Oper.upon]
 refine hc.mono fun e w' h => ?_
 rcases k e w' h with ⟨v, rfl, hk⟩ | ⟨ch, rfl, hq⟩
 ·
  exact hk _ (hA.put hn v)
 ·
  exact hq
theorem goLy {l : List (Nat × Operand)} {vs : List Value} {z : Value} {by_ len : Nat} {gd : Option (Nat × Bool)} (hA : Ag a n E ds) (hw : Region.wanted ⟨some d, .buildSlice t len l.toArray, ty, ps, af, gd⟩ (yielded ops a.tmps) = true) (hn : Nat.blt d n = true) (hv : lits E 0 l = some vs) (ht : P.underlying t = some (.slice e)) (hi : elemK P e = some (some z, 1, by_)) (hzs : z.cells.size = 1) (hl : Nat.beq len vs.length = true) (hsm : Nat.ble len 16777216 = true) (h1 : ∀ v ∈ vs, v.oneCell' = true)
 (s : Sat W w L) (k : ∀ A w', Sat W w' (row e 1 (.slice A len len) len vs :: L) → ∀ a', Ag a' n ((d, .slice A len len) :: E) ds → wpList P ops Q rest a' w') : wpList P ops Q (⟨some d, .buildSlice t len l.toArray, ty, ps, af, gd⟩ :: rest) a w :=
 go1y hA hw rfl hn (r_lit hA hv ht hi hzs (Nat.eq_of_beq_eq_true hl) (Nat.le_of_ble_eq_true hsm) h1) (k _ _ (s.row_lit e vs len (Nat.eq_of_beq_eq_true hl) (Nat.le_of_ble_eq_true hsm)))
end
end Go.Proofs.Ytfbdcllbgfohdaa.K
set_option linter.unusedVariables false
set_option linter.unusedSimpArgs false
namespace Go.Proofs.Ytfbdcllbgfohdaa.K
open Go Go.RowKit
variable {ds : List Deferred}
section
variable {P : Program} {w : World} {ρ : Operand → Value} {dd : Option Tmp} {ty : TypeId} {ps : String} {af : Array Edge} {g : Option (Nat × Bool)} {e t : TypeId} {x y z u : Operand}
theorem run_make2 {z : Value} {by_ n c : Nat} (hx : ρ x = .int .i64 n) (hy : ρ y = .int .i64 c) (hnc : n ≤ c) (ht : P.underlying t = some (.slice e)) (hi : elemK P e = some (some z, 1, by_)) (hz : z.cells = #[z]) (hn : by_ * c ≤ 140737488355328) (hn2 : c ≤ 140737488355328) :
 (execOp ρ ⟨dd, .makeSlice t x y, ty, ps, af, g⟩).run P w = .ok (.value (.slice (some ⟨w.heap.size, 0, none⟩) n c)) (w.alloc (.cells (List.replicate c z).toArray e)) := by
 obtain ⟨i, hi', hq⟩ := Option.map_eq_some_iff.1 hi
 simp only [Prod.mk.injEq] at hq
 obtain ⟨hz', hsz, hb⟩ := hq
 have hw : IntKind.i64.wrap (n : Int) = n := wrap_in (by simp [IntKind.min, IntKind.signed, IntKind.bits]; try omega) (by simp [IntKind.max, IntKind.signed, IntKind.bits]; try omega)
 have hwc : IntKind.i64.wrap (c : Int) = c := wrap_in (by simp [IntKind.min, IntKind.signed, IntKind.bits]; try omega) (by simp [IntKind.max, IntKind.signed, IntKind.bits]; try omega)
 have hm : (by_ : Int) * (n : Int) ≤ (by_ : Int) * (c : Int) := by
  have := Nat.mul_le_mul_left by_ hnc
  rw [← Int.natCast_mul, ← Int.natCast_mul]; omega
 have h1 : ¬ (281474976710656 < (by_ : Int) * (c : Int)) := by
  rw [show (by_ : Int) * (c : Int) = ((by_ * c : Nat) : Int) from by simp]
  omega
 have h1n : ¬ (281474976710656 < (by_ : Int) * (n : Int)) := by omega
 have h2 : ¬ (c * by_ > roomBytes) := by rw [Nat.mul_comm]; simp [roomBytes]; omega
 have h3 : ¬ ((n : Int) < 0) := by omega
 have h3c : ¬ ((c : Int) < n) := by omega
 have harr : ((Array.range c).map fun _ => z) = (List.replicate c z).toArray := by
  apply Array.ext'
  simp [List.map_const']
 have hz2 : (fun x : Nat => z.cells[x % z.cells.size]!) = fun _ => z := by
  funext x; rw [hz]; simp [Nat.mod_one]
 obtain ⟨N, hN⟩ : ∃ N : Int, N = (n : Int) := ⟨_, rfl⟩
 obtain ⟨C, hC⟩ : ∃ N : Int, N = (c : Int) := ⟨_, rfl⟩
 have hNn : N.toNat = n := by omega
 have hCc : C.toNat = c := by omega
 rw [← hN] at hx hw h3 h1n h3c
 rw [← hC] at hy hwc h1 h3c
 have h4 : ¬ (c * by_ > 140737488355328) := by rw [Nat.mul_comm]; omega
 simp [execOp, hx, hy, Instr.makeSlice, run_underlying ht, asInt, typeInfo, sizeOf, zeroValue, hi', hsz, hb, hz', hw, hwc, h1, h1n, h3, h3c, hNn, hCc, askRoom, roomBytes, newRow, newObj, Sem.run, go_sem]
 by_cases h0 : c = 0
 ·
  subst h0
  obtain rfl : n = 0 := by omega
  simp [hNn, hCc, h3, h3c, h4, show C = 0 from by omega, show N = 0 from by omega]
  congr 2
  apply Array.ext'
  simp [Array.range]
 ·
  simp [h0, h3, h3c, h4, show ¬ C ≤ 0 from by omega, show ¬ C < 0 from by omega, show ¬ N < 0 from by omega]
  show w.alloc (.cells (Array.map (fun x => z.cells[x % z.cells.size]!) (Array.range c)) e) = _
  rw [hz2, harr]
  simp
end
section
variable {P : Program} {ops : Array Oper} {a : Act} {n : Nat} {E : Env} {w W : World} {rest : List Oper} {d : Nat} {Q : Exit → Act → World → Prop} {L : List As} {e t : TypeId} {ty : TypeId} {ps : String} {af : Array Edge} {x y : Operand}
theorem goM2 {z : Value} {by_ m c : Nat} (hA : Ag a n E ds) (hn : Nat.blt d n = true) (hx : evo E x = some (.int .i64 m)) (hy : evo E y = some (.int .i64 c)) (ht : P.underlying t = some (.slice e)) (hi : elemK P e = some (some z, 1, by_)) (hz : z.cells = #[z]) (hmc : m ≤ c) (h1 : by_ * c ≤ 140737488355328) (h2 : c ≤ 140737488355328)
 (s : Sat W w L) (k : ∀ b w', Sat W w' (row e 1 (.slice (some ⟨b, 0, none⟩) m c) m (List.replicate m z) :: L) → ∀ a', Ag a' n ((d, .slice (some ⟨b, 0, none⟩) m c) :: E) ds → wpList P ops Q rest a' w') : wpList P ops Q (⟨some d, .makeSlice t x y, ty, ps, af, none⟩ :: rest) a w :=
 go1 hA rfl rfl hn (run_make2 (hA.ev hx) (hA.ev hy) hmc ht hi hz h1 h2) (k _ _ ((s.alloc _).imp fun h hh => .inr ⟨w.heap.size, c, List.replicate (c - m) z, (0, 0), rfl, hmc, by omega, by simp, by simp; omega, unfro.zero _, by rw [show h w.heap.size = _ from hh]; congr 2; rw [List.replicate_append_replicate]; congr 2; omega⟩))
end
end Go.Proofs.Ytfbdcllbgfohdaa.K
set_option linter.unusedSimpArgs false
namespace Go.Proofs.Ytfbdcllbgfohdaa.T
open Go Go.Proofs.Ytfbdcllbgfohdaa.K
theorem un3 : Try.prog.underlying 3 = some (.int .i64) := by kernel_rfl
theorem un5 : Try.prog.underlying 5 = some (.int .u8) := by kernel_rfl
theorem un22 : Try.prog.underlying 22 = some (.slice 49) := by kernel_rfl
theorem un32 : Try.prog.underlying 32 = some (.slice 3) := by kernel_rfl
theorem un34 : Try.prog.underlying 34 = some (.slice 5) := by kernel_rfl
theorem un50 : Try.prog.underlying 50 = some (.slice 34) := by kernel_rfl
theorem un60 : Try.prog.underlying 60 = some (.slice 98) := by kernel_rfl
theorem un61 : Try.prog.underlying 61 = some (.slice 32) := by kernel_rfl
theorem un62 : Try.prog.underlying 62 = some (.slice 104) := by kernel_rfl
theorem un63 : Try.prog.underlying 63 = some (.slice 107) := by kernel_rfl
theorem un64 : Try.prog.underlying 64 = some (.slice 113) := by kernel_rfl
theorem un69 : Try.prog.underlying 69 = some (.slice 22) := by kernel_rfl
theorem un71 : Try.prog.underlying 71 = some (.array 6 3) := by kernel_rfl
theorem un75 : Try.prog.underlying 75 = some (.pointer 88) := by kernel_rfl
theorem un79 : Try.prog.underlying 79 = some (.pointer 96) := by kernel_rfl
theorem fl3 : flat Try.prog 3 = true := by kernel_rfl
theorem sz3 : (Try.prog.info? 3).map (·.size) = some 1 := by kernel_rfl
theorem fl4 : flat Try.prog 4 = true := by kernel_rfl
theorem sz4 : (Try.prog.info? 4).map (·.size) = some 1 := by kernel_rfl
theorem fl5 : flat Try.prog 5 = true := by kernel_rfl
theorem sz5 : (Try.prog.info? 5).map (·.size) = some 1 := by kernel_rfl
theorem fl22 : flat Try.prog 22 = true := by kernel_rfl
theorem sz22 : (Try.prog.info? 22).map (·.size) = some 1 := by kernel_rfl
theorem ag24 : aggr Try.prog 24 = true := by kernel_rfl
theorem sz24 : (Try.prog.info? 24).map (·.size) = some 6 := by kernel_rfl
theorem fl25 : flat Try.prog 25 = true := by kernel_rfl
theorem sz25 : (Try.prog.info? 25).map (·.size) = some 1 := by kernel_rfl
theorem fl32 : flat Try.prog 32 = true := by kernel_rfl
theorem sz32 : (Try.prog.info? 32).map (·.size) = some 1 := by kernel_rfl
theorem fl34 : flat Try.prog 34 = true := by kernel_rfl
theorem sz34 : (Try.prog.info? 34).map (·.size) = some 1 := by kernel_rfl
theorem ag49 : aggr Try.prog 49 = true := by kernel_rfl
theorem sz49 : (Try.prog.info? 49).map (·.size) = some 2 := by kernel_rfl
theorem fl50 : flat Try.prog 50 = true := by kernel_rfl
theorem sz50 : (Try.prog.info? 50).map (·.size) = some 1 := by kernel_rfl
theorem ag52 : aggr Try.prog 52 = true := by kernel_rfl
theorem sz52 : (Try.prog.info? 52).map (·.size) = some 8 := by kernel_rfl
theorem ag56 : aggr Try.prog 56 = true := by kernel_rfl
theorem sz56 : (Try.prog.info? 56).map (·.size) = some 17 := by kernel_rfl
theorem fl60 : flat Try.prog 60 = true := by kernel_rfl
theorem fl61 : flat Try.prog 61 = true := by kernel_rfl
theorem sz61 : (Try.prog.info? 61).map (·.size) = some 1 := by kernel_rfl
theorem fl62 : flat Try.prog 62 = true := by kernel_rfl
theorem fl63 : flat Try.prog 63 = true := by kernel_rfl
theorem fl64 : flat Try.prog 64 = true := by kernel_rfl
theorem fl75 : flat Try.prog 75 = true := by kernel_rfl
theorem sz75 : (Try.prog.info? 75).map (·.size) = some 1 := by kernel_rfl
theorem sz90 : (Try.prog.info? 90).map (·.size) = some 1 := by kernel_rfl
theorem el3 : elemK Try.prog 3 = some (some (.int .i64 0), 1, 8) := by kernel_rfl
theorem el5 : elemK Try.prog 5 = some (some (.int .u8 0), 1, 1) := by kernel_rfl
theorem el22 : elemK Try.prog 22 = some (some (.slice none 0 0), 1, 24) := by kernel_rfl
theorem el32 : elemK Try.prog 32 = some (some (.slice none 0 0), 1, 24) := by kernel_rfl
theorem el34 : elemK Try.prog 34 = some (some (.slice none 0 0), 1, 24) := by kernel_rfl
theorem el49 : elemK Try.prog 49 = some (some (.agg #[.int .i64 0, .slice none 0 0]), 2, 32) := by kernel_rfl
theorem zv24 : (Try.prog.info? 24).bind (·.zero) = some (.agg #[.int .i64 0, .int .i64 0, .int .i64 0, .int .i64 0, .int .i64 0, .slice none 0 0]) := by kernel_rfl
theorem zv25 : (Try.prog.info? 25).bind (·.zero) = some (.int .i64 0) := by kernel_rfl
theorem zv49 : (Try.prog.info? 49).bind (·.zero) = some (.agg #[.int .i64 0, .slice none 0 0]) := by kernel_rfl
theorem zv52 : (Try.prog.info? 52).bind (·.zero) = some (.agg #[.int .i64 0, .int .i64 0, .int .i64 0, .int .i64 0, .int .i64 0, .slice none 0 0, .slice none 0 0, .slice none 0 0]) := by kernel_rfl
theorem zv56 : (Try.prog.info? 56).bind (·.zero) = some (.agg #[.int .i64 0, .int .i64 0, .int .i64 0, .int .i64 0, .int .i64 0, .int .i64 0, .int .i64 0, .slice none 0 0, .slice none 0 0, .slice none 0 0, .slice none 0 0, .int .i64 0, .int .i64 0, .int .i64 0, .int .i64 0, .int .i64 0, .slice none 0 0]) := by kernel_rfl
theorem zv71 : (Try.prog.info? 71).bind (·.zero) = some (.agg #[.int .i64 0, .int .i64 0, .int .i64 0, .int .i64 0, .int .i64 0, .int .i64 0]) := by kernel_rfl
theorem zv75 : (Try.prog.info? 75).bind (·.zero) = some (.pointer none) := by kernel_rfl
theorem zv90 : (Try.prog.info? 90).bind (·.zero) = some (.agg #[.pointer none]) := by kernel_rfl
theorem fo24_0 : fieldOf Try.prog 24 0 = some (0, some 1) := by kernel_rfl
theorem fo24_1 : fieldOf Try.prog 24 1 = some (1, some 1) := by kernel_rfl
theorem fo24_2 : fieldOf Try.prog 24 2 = some (2, some 1) := by kernel_rfl
theorem fo24_3 : fieldOf Try.prog 24 3 = some (3, some 1) := by kernel_rfl
theorem fo24_4 : fieldOf Try.prog 24 4 = some (4, some 1) := by kernel_rfl
theorem fo24_5 : fieldOf Try.prog 24 5 = some (5, some 1) := by kernel_rfl
theorem fo49_0 : fieldOf Try.prog 49 0 = some (0, some 1) := by kernel_rfl
theorem fo49_1 : fieldOf Try.prog 49 1 = some (1, some 1) := by kernel_rfl
theorem fo52_0 : fieldOf Try.prog 52 0 = some (0, some 6) := by kernel_rfl
theorem fo52_1 : fieldOf Try.prog 52 1 = some (6, some 1) := by kernel_rfl
theorem fo52_2 : fieldOf Try.prog 52 2 = some (7, some 1) := by kernel_rfl
theorem fo56_0 : fieldOf Try.prog 56 0 = some (0, some 1) := by kernel_rfl
theorem fo56_1 : fieldOf Try.prog 56 1 = some (1, some 1) := by kernel_rfl
theorem fo56_2 : fieldOf Try.prog 56 2 = some (2, some 6) := by kernel_rfl
theorem fo56_3 : fieldOf Try.prog 56 3 = some (8, some 1) := by kernel_rfl
theorem fo56_4 : fieldOf Try.prog 56 4 = some (9, some 1) := by kernel_rfl
theorem fo56_5 : fieldOf Try.prog 56 5 = some (10, some 1) := by kernel_rfl
theorem fo56_6 : fieldOf Try.prog 56 6 = some (11, some 6) := by kernel_rfl
theorem fo66_0 : fieldOf Try.prog 66 0 = some (0, some 1) := by kernel_rfl
theorem fo66_1 : fieldOf Try.prog 66 1 = some (1, some 1) := by kernel_rfl
theorem fo66_2 : fieldOf Try.prog 66 2 = some (2, some 1) := by kernel_rfl
theorem fo66_3 : fieldOf Try.prog 66 3 = some (3, some 1) := by kernel_rfl
theorem fo66_4 : fieldOf Try.prog 66 4 = some (4, some 1) := by kernel_rfl
theorem fo66_5 : fieldOf Try.prog 66 5 = some (5, some 1) := by kernel_rfl
theorem fo88_0 : fieldOf Try.prog 88 0 = some (0, some 1) := by kernel_rfl
theorem fo88_1 : fieldOf Try.prog 88 1 = some (1, some 1) := by kernel_rfl
theorem fo88_2 : fieldOf Try.prog 88 2 = some (2, some 1) := by kernel_rfl
theorem fo88_3 : fieldOf Try.prog 88 3 = some (3, some 1) := by kernel_rfl
theorem fo90_0 : fieldOf Try.prog 90 0 = some (0, some 1) := by kernel_rfl
theorem fo96_0 : fieldOf Try.prog 96 0 = some (0, some 1) := by kernel_rfl
theorem fo96_1 : fieldOf Try.prog 96 1 = some (1, some 1) := by kernel_rfl
theorem bd24_  : ∀ w, (Instr.build 24 #[]).run Try.prog w = .ok (.agg #[.int .i64 0, .int .i64 0, .int .i64 0, .int .i64 0, .int .i64 0, .slice none 0 0]) w := fun w => by kernel_rfl
theorem bd24_0_1_2_3_4 {x0 : Int} {x1 : Int} {x2 : Int} {x3 : Int} {x4 : Int} : ∀ w, (Instr.build 24 #[(0, .int .i64 x0), (1, .int .i64 x1), (2, .int .i64 x2), (3, .int .i64 x3), (4, .int .i64 x4)]).run Try.prog w = .ok (.agg #[.int .i64 x0, .int .i64 x1, .int .i64 x2, .int .i64 x3, .int .i64 x4, .slice none 0 0]) w := fun w => by kernel_rfl
theorem bd24_0_1_2_3_4_5 {x0 : Int} {x1 : Int} {x2 : Int} {x3 : Int} {x4 : Int} {x5 : Option Addr} {x5n x5c : Nat} : ∀ w, (Instr.build 24 #[(0, .int .i64 x0), (1, .int .i64 x1), (2, .int .i64 x2), (3, .int .i64 x3), (4, .int .i64 x4), (5, .slice x5 x5n x5c)]).run Try.prog w = .ok (.agg #[.int .i64 x0, .int .i64 x1, .int .i64 x2, .int .i64 x3, .int .i64 x4, .slice x5 x5n x5c]) w := fun w => by kernel_rfl
theorem bd24_0_1_2_4 {x0 : Int} {x1 : Int} {x2 : Int} {x4 : Int} : ∀ w, (Instr.build 24 #[(0, .int .i64 x0), (1, .int .i64 x1), (2, .int .i64 x2), (4, .int .i64 x4)]).run Try.prog w = .ok (.agg #[.int .i64 x0, .int .i64 x1, .int .i64 x2, .int .i64 0, .int .i64 x4, .slice none 0 0]) w := fun w => by kernel_rfl
theorem bd49_0 {x0 : Int} : ∀ w, (Instr.build 49 #[(0, .int .i64 x0)]).run Try.prog w = .ok (.agg #[.int .i64 x0, .slice none 0 0]) w := fun w => by kernel_rfl
theorem bd49_0_1 {x0 : Int} {x1 : Option Addr} {x1n x1c : Nat} : ∀ w, (Instr.build 49 #[(0, .int .i64 x0), (1, .slice x1 x1n x1c)]).run Try.prog w = .ok (.agg #[.int .i64 x0, .slice x1 x1n x1c]) w := fun w => by kernel_rfl
theorem bd52_0 {x0_0 : Int} {x0_1 : Int} {x0_2 : Int} {x0_3 : Int} {x0_4 : Int} {x0_5 : Option Addr} {x0_5n x0_5c : Nat} : ∀ w, (Instr.build 52 #[(0, .agg #[.int .i64 x0_0, .int .i64 x0_1, .int .i64 x0_2, .int .i64 x0_3, .int .i64 x0_4, .slice x0_5 x0_5n x0_5c])]).run Try.prog w = .ok (.agg #[.int .i64 x0_0, .int .i64 x0_1, .int .i64 x0_2, .int .i64 x0_3, .int .i64 x0_4, .slice x0_5 x0_5n x0_5c, .slice none 0 0, .slice none 0 0]) w := fun w => by kernel_rfl
theorem bd66_  : ∀ w, (Instr.build 66 #[]).run Try.prog w = .ok (.agg #[.slice none 0 0, .slice none 0 0, .slice none 0 0, .slice none 0 0, .slice none 0 0, .slice none 0 0]) w := fun w => by kernel_rfl
theorem bd88_0_2 {x0 : Option Addr} {x0n x0c : Nat} {x2 : Bool} : ∀ w, (Instr.build 88 #[(0, .slice x0 x0n x0c), (2, .bool x2)]).run Try.prog w = .ok (.agg #[.slice x0 x0n x0c, .int .i64 0, .bool x2, .int .i64 0]) w := fun w => by kernel_rfl
theorem bd90_0 {x0 : Option Addr} : ∀ w, (Instr.build 90 #[(0, .pointer x0)]).run Try.prog w = .ok (.agg #[.pointer x0]) w := fun w => by kernel_rfl
theorem bd96_  : ∀ w, (Instr.build 96 #[]).run Try.prog w = .ok (.agg #[.slice none 0 0, .bool false]) w := fun w => by kernel_rfl
theorem uf78 : isFunc Try.prog 78 = true := by kernel_rfl
theorem ci90 : concr Try.prog 90 = true := by kernel_rfl
theorem en12 : enters Try.prog 12 = true := by kernel_rfl
theorem en13 : enters Try.prog 13 = true := by kernel_rfl
theorem en14 : enters Try.prog 14 = true := by kernel_rfl
theorem en15 : enters Try.prog 15 = true := by kernel_rfl
theorem en16 : enters Try.prog 16 = true := by kernel_rfl
theorem en17 : enters Try.prog 17 = true := by kernel_rfl
theorem en18 : enters Try.prog 18 = true := by kernel_rfl
theorem en19 : enters Try.prog 19 = true := by kernel_rfl
theorem en20 : enters Try.prog 20 = true := by kernel_rfl
theorem en21 : enters Try.prog 21 = true := by kernel_rfl
theorem en22 : enters Try.prog 22 = true := by kernel_rfl
theorem en23 : enters Try.prog 23 = true := by kernel_rfl
theorem en24 : enters Try.prog 24 = true := by kernel_rfl
theorem en25 : enters Try.prog 25 = true := by kernel_rfl
theorem en26 : enters Try.prog 26 = true := by kernel_rfl
theorem en27 : enters Try.prog 27 = true := by kernel_rfl
theorem en28 : enters Try.prog 28 = true := by kernel_rfl
theorem en29 : enters Try.prog 29 = true := by kernel_rfl
theorem en30 : enters Try.prog 30 = true := by kernel_rfl
theorem en31 : enters Try.prog 31 = true := by kernel_rfl
theorem en32 : enters Try.prog 32 = true := by kernel_rfl
theorem en33 : enters Try.prog 33 = true := by kernel_rfl
theorem en34 : enters Try.prog 34 = true := by kernel_rfl
theorem en35 : enters Try.prog 35 = true := by kernel_rfl
theorem en36 : enters Try.prog 36 = true := by kernel_rfl
theorem en37 : enters Try.prog 37 = true := by kernel_rfl
theorem en38 : enters Try.prog 38 = true := by kernel_rfl
theorem en39 : enters Try.prog 39 = true := by kernel_rfl
theorem en40 : enters Try.prog 40 = true := by kernel_rfl
theorem en41 : enters Try.prog 41 = true := by kernel_rfl
theorem en42 : enters Try.prog 42 = true := by kernel_rfl
theorem en43 : enters Try.prog 43 = true := by kernel_rfl
theorem en44 : enters Try.prog 44 = true := by kernel_rfl
theorem en45 : enters Try.prog 45 = true := by kernel_rfl
theorem en46 : enters Try.prog 46 = true := by kernel_rfl
theorem en47 : enters Try.prog 47 = true := by kernel_rfl
theorem en48 : enters Try.prog 48 = true := by kernel_rfl
theorem en49 : enters Try.prog 49 = true := by kernel_rfl
theorem en50 : enters Try.prog 50 = true := by kernel_rfl
theorem en51 : enters Try.prog 51 = true := by kernel_rfl
theorem en52 : enters Try.prog 52 = true := by kernel_rfl
theorem en53 : enters Try.prog 53 = true := by kernel_rfl
theorem en54 : enters Try.prog 54 = true := by kernel_rfl
theorem en55 : enters Try.prog 55 = true := by kernel_rfl
theorem en56 : enters Try.prog 56 = true := by kernel_rfl
theorem en57 : enters Try.prog 57 = true := by kernel_rfl
theorem en58 : enters Try.prog 58 = true := by kernel_rfl
theorem en59 : enters Try.prog 59 = true := by kernel_rfl
theorem en60 : enters Try.prog 60 = true := by kernel_rfl
theorem en61 : enters Try.prog 61 = true := by kernel_rfl
theorem en62 : enters Try.prog 62 = true := by kernel_rfl
theorem en63 : enters Try.prog 63 = true := by kernel_rfl
theorem en64 : enters Try.prog 64 = true := by kernel_rfl
theorem en65 : enters Try.prog 65 = true := by kernel_rfl
theorem en66 : enters Try.prog 66 = true := by kernel_rfl
theorem en67 : enters Try.prog 67 = true := by kernel_rfl
theorem en68 : enters Try.prog 68 = true := by kernel_rfl
theorem en69 : enters Try.prog 69 = true := by kernel_rfl
theorem en70 : enters Try.prog 70 = true := by kernel_rfl
theorem en71 : enters Try.prog 71 = true := by kernel_rfl
theorem en74 : enters Try.prog 74 = true := by kernel_rfl
end Go.Proofs.Ytfbdcllbgfohdaa.T
