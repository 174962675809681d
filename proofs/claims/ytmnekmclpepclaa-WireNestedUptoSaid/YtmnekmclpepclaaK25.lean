/- Words of our own for walks: slices that are made with spare room, parts of texts. Plain theorems about the model; no condition. -/
import Derived.Test.YtmnekmclpepclaaK24
set_option linter.unusedVariables false
set_option linter.unusedSimpArgs false
namespace Go.Proofs.Ytmnekmclpepclaa.K
open Go Go.RowKit
variable {ds : List Deferred}
section
variable {P : Program} {w : World} {ρ : Operand → Value} {dd : Option Tmp} {ty : TypeId} {ps : String} {af : Array Edge} {g : Option (Nat × Bool)} {e t : TypeId} {x y z u : Operand}
theorem run_make2 {z : Value} {by_ n c : Nat} (hx : ρ x = .int .i64 n) (hy : ρ y = .int .i64 c) (hnc : n ≤ c) (ht : P.underlying t = some (.slice e)) (hi : elemK P e = some (some z, 1, by_)) (hz : z.cells = #[z]) (hn : by_ * c ≤ 140737488355328) (hn2 : c ≤ 140737488355328) :
    (execOp ρ ⟨dd, .makeSlice t x y, ty, ps, af, g⟩).run P w = .ok (.value (.slice (some ⟨w.heap.size, 0, none⟩) n c)) (w.alloc (.cells (List.replicate c z).toArray e)) := by
  obtain ⟨i, hi', hq⟩ := Option.map_eq_some_iff.1 hi
  simp only [Prod.mk.injEq] at hq
  obtain ⟨hz', hsz, hb⟩ := hq
  have hw : IntKind.i64.wrap (n : Int) = n := wrap_in (by simp [IntKind.min, IntKind.signed, IntKind.bits]; try omega) (by simp [IntKind.max, IntKind.signed, IntKind.bits]; try omega)
  have hwc : IntKind.i64.wrap (c : Int) = c := wrap_in (by simp [IntKind.min, IntKind.signed, IntKind.bits]; try omega) (by simp [IntKind.max, IntKind.signed, IntKind.bits]; try omega)
  have hm : (by_ : Int) * (n : Int) ≤ (by_ : Int) * (c : Int) := by
    have := Nat.mul_le_mul_left by_ hnc
    rw [← Int.natCast_mul, ← Int.natCast_mul]; omega
  have h1 : ¬ (281474976710656 < (by_ : Int) * (c : Int)) := by
    rw [show (by_ : Int) * (c : Int) = ((by_ * c : Nat) : Int) from by simp]
    omega
  have h1n : ¬ (281474976710656 < (by_ : Int) * (n : Int)) := by omega
  have h2 : ¬ (c * by_ > roomBytes) := by rw [Nat.mul_comm]; simp [roomBytes]; omega
  have h3 : ¬ ((n : Int) < 0) := by omega
  have h3c : ¬ ((c : Int) < n) := by omega
  have harr : ((Array.range c).map fun _ => z) = (List.replicate c z).toArray := by
    apply Array.ext'
    simp [List.map_const']
  have hz2 : (fun x : Nat => z.cells[x % z.cells.size]!) = fun _ => z := by
    funext x; rw [hz]; simp [Nat.mod_one]
  obtain ⟨N, hN⟩ : ∃ N : Int, N = (n : Int) := ⟨_, rfl⟩
  obtain ⟨C, hC⟩ : ∃ N : Int, N = (c : Int) := ⟨_, rfl⟩
  have hNn : N.toNat = n := by omega
  have hCc : C.toNat = c := by omega
  rw [← hN] at hx hw h3 h1n h3c
  rw [← hC] at hy hwc h1 h3c
  have h4 : ¬ (c * by_ > 140737488355328) := by rw [Nat.mul_comm]; omega
  simp [execOp, hx, hy, Instr.makeSlice, run_underlying ht, asInt, typeInfo, sizeOf, zeroValue, hi', hsz, hb, hz', hw, hwc, h1, h1n, h3, h3c, hNn, hCc, askRoom, roomBytes, newRow, newObj, Sem.run, go_sem]
  by_cases h0 : c = 0
  · subst h0
    obtain rfl : n = 0 := by omega
    simp [hNn, hCc, h3, h3c, h4, show C = 0 from by omega, show N = 0 from by omega]
    congr 2
    apply Array.ext'
    simp [Array.range]
  · simp [h0, h3, h3c, h4, show ¬ C ≤ 0 from by omega, show ¬ C < 0 from by omega, show ¬ N < 0 from by omega]
    show w.alloc (.cells (Array.map (fun x => z.cells[x % z.cells.size]!) (Array.range c)) e) = _
    rw [hz2, harr]
    simp
/-- A part of a text. -/
theorem r_sstr {s : ByteArray} {i j : Int} {k k' : IntKind} (hx : ρ x = .string s) (hy : ρ y = .int k i) (hz : ρ z = .int k' j) (ht : P.underlying t = some .string) (h0 : 0 ≤ i) (h1 : i ≤ j) (h2 : j ≤ s.size) :
    (execOp ρ ⟨dd, .slice t x (some y) (some z) none, ty, ps, af, g⟩).run P w = .ok (.value (.string (s.extract i.toNat j.toNat))) w := by
  have h3 : 0 ≤ j := by omega
  have h4 : i ≤ max j 0 := by omega
  simp [execOp, Instr.sliceAt, Instr.slice, Instr.sliceBounds, Instr.sliceBound, run_underlying ht, hx, hy, hz, asIntOf, h0, h1, h2, h3, h4, go_sem]
theorem r_sstr_h {s : ByteArray} {j : Int} {k' : IntKind} (hx : ρ x = .string s) (hz : ρ z = .int k' j) (ht : P.underlying t = some .string) (h1 : 0 ≤ j) (h2 : j ≤ s.size) :
    (execOp ρ ⟨dd, .slice t x none (some z) none, ty, ps, af, g⟩).run P w = .ok (.value (.string (s.extract 0 j.toNat))) w := by
  simp [execOp, Instr.sliceAt, Instr.slice, Instr.sliceBounds, Instr.sliceBound, run_underlying ht, hx, hz, asIntOf, h1, h2, go_sem]
theorem r_sstr_l {s : ByteArray} {i : Int} {k : IntKind} (hx : ρ x = .string s) (hy : ρ y = .int k i) (ht : P.underlying t = some .string) (h0 : 0 ≤ i) (h1 : i ≤ s.size) :
    (execOp ρ ⟨dd, .slice t x (some y) none none, ty, ps, af, g⟩).run P w = .ok (.value (.string (s.extract i.toNat s.size))) w := by
  simp [execOp, Instr.sliceAt, Instr.slice, Instr.sliceBounds, Instr.sliceBound, run_underlying ht, hx, hy, asIntOf, h0, h1, go_sem]
end
section
variable {P : Program} {ops : Array Oper} {a : Act} {n : Nat} {E : Env} {w W : World} {rest : List Oper} {d : Nat} {Q : Exit → Act → World → Prop} {L : List As} {e t : TypeId} {ty : TypeId} {ps : String} {af : Array Edge} {x y : Operand}
theorem goM2 {z : Value} {by_ m c : Nat} (hA : Ag a n E ds) (hn : Nat.blt d n = true) (hx : evo E x = some (.int .i64 m)) (hy : evo E y = some (.int .i64 c)) (ht : P.underlying t = some (.slice e)) (hi : elemK P e = some (some z, 1, by_)) (hz : z.cells = #[z]) (hmc : m ≤ c) (h1 : by_ * c ≤ 140737488355328) (h2 : c ≤ 140737488355328)
    (s : Sat W w L) (k : ∀ b w', Sat W w' (row e 1 (.slice (some ⟨b, 0, none⟩) m c) m (List.replicate m z) :: L) → ∀ a', Ag a' n ((d, .slice (some ⟨b, 0, none⟩) m c) :: E) ds → wpList P ops Q rest a' w') : wpList P ops Q (⟨some d, .makeSlice t x y, ty, ps, af, none⟩ :: rest) a w :=
  go1 hA rfl rfl hn (run_make2 (hA.ev hx) (hA.ev hy) hmc ht hi hz h1 h2) (k _ _ ((s.alloc _).imp fun h hh => .inr ⟨w.heap.size, c, List.replicate (c - m) z, (0, 0), rfl, hmc, by omega, by simp, by simp; omega, unfro.zero _, by rw [show h w.heap.size = _ from hh]; congr 2; rw [List.replicate_append_replicate]; congr 2; omega⟩))
/-- Pointers into two blocks. -/
theorem r_nepD {el : TypeId} {k b b' : Nat} {yt s1 s2 : TypeId} {cs cs' : Array Value} {ρ : Operand → Value} {dd : Option Tmp} {g : Option (Nat × Bool)} (hx : ρ x = .pointer (some ⟨b, 0, none⟩)) (hy : ρ y = .pointer (some ⟨b', 0, none⟩)) (ht : P.underlying t = some (.pointer el)) (hz : (P.info? el).map (·.size) = some (k + 1))
    (hb : w.heap[b]? = some (.cells cs s1 (0, 0))) (hb' : w.heap[b']? = some (.cells cs' s2 (0, 0))) (hne : b ≠ b') : (execOp ρ ⟨dd, .binOp .neq t x y yt, ty, ps, af, g⟩).run P w = .ok (.value (.bool true)) w := by
  obtain ⟨i, hi, hk⟩ := Option.map_eq_some_iff.1 hz
  obtain ⟨m, hm⟩ : ∃ m, Op.maxDepth = m + 1 := ⟨9999, rfl⟩
  have hf : ∀ j, w.frozen? ⟨b, j, none⟩ = false := fun j => by simp [World.frozen?, hb]
  have hf' : ∀ j, w.frozen? ⟨b', j, none⟩ = false := fun j => by simp [World.frozen?, hb']
  have hs : w.shape? b = some (s1, cs.size) := by simp [World.shape?, hb]
  have hs' : w.shape? b' = some (s2, cs'.size) := by simp [World.shape?, hb']
  simp [execOp, hx, hy, binOp, eqGuard, Op.equal, hm, Op.equalIn, run_underlying ht, sizeOf, typeInfo, hi, hk, sameAddr, hne, noView, viewAt, mayBeOne, stringish, hf, hf', hs, hs', Result.andThen, go_sem]
end
end Go.Proofs.Ytmnekmclpepclaa.K
