/- Words of our own for walks: slices that are made, arrays of one's own that are written by index. Plain theorems about the model; no condition. -/
import Derived.Test.YtmnekmclpepclaaK12
set_option linter.unusedVariables false
set_option linter.unusedSimpArgs false
namespace Go.Proofs.Ytmnekmclpepclaa.K
open Go Go.RowKit
variable {ds : List Deferred}
section
variable {P : Program} {w : World} {ρ : Operand → Value} {dd : Option Tmp} {ty : TypeId} {ps : String} {af : Array Edge} {g : Option (Nat × Bool)} {e t : TypeId} {x y : Operand}
theorem run_make {z : Value} {by_ n : Nat} (hx : ρ x = .int .i64 n) (hy : ρ y = .int .i64 n) (ht : P.underlying t = some (.slice e)) (hi : elemK P e = some (some z, 1, by_)) (hz : z.cells = #[z]) (hn : by_ * n ≤ 140737488355328) (hn2 : n ≤ 140737488355328) :
    (execOp ρ ⟨dd, .makeSlice t x y, ty, ps, af, g⟩).run P w = .ok (.value (.slice (some ⟨w.heap.size, 0, none⟩) n n)) (w.alloc (.cells (List.replicate n z).toArray e)) := by
  obtain ⟨i, hi', hq⟩ := Option.map_eq_some_iff.1 hi
  simp only [Prod.mk.injEq] at hq
  obtain ⟨hz', hsz, hb⟩ := hq
  have hw : IntKind.i64.wrap (n : Int) = n := wrap_in (by simp [IntKind.min, IntKind.signed, IntKind.bits]; try omega) (by simp [IntKind.max, IntKind.signed, IntKind.bits]; try omega)
  have h1 : ¬ (281474976710656 < (by_ : Int) * (n : Int)) := by
    rw [show (by_ : Int) * (n : Int) = ((by_ * n : Nat) : Int) from by simp]
    omega
  have h2 : ¬ (n * by_ > roomBytes) := by rw [Nat.mul_comm]; simp [roomBytes]; omega
  have h3 : ¬ ((n : Int) < 0) := by omega
  have hc : (if n * 1 = 0 then (#[] : Array Value) else #[z]).size = 0 ∨ True := .inr trivial
  have harr : ((Array.range n).map fun _ => z) = (List.replicate n z).toArray := by
    apply Array.ext'
    simp [List.map_const']
  have hz2 : (fun x : Nat => z.cells[x % z.cells.size]!) = fun _ => z := by
    funext x; rw [hz]; simp [Nat.mod_one]
  have hN : ∃ N : Int, N = (n : Int) := ⟨_, rfl⟩
  obtain ⟨N, hN⟩ := hN
  have hNn : N.toNat = n := by omega
  rw [← hN] at hx hy hw h1 h3
  have h4 : ¬ (n * by_ > 140737488355328) := by rw [Nat.mul_comm]; omega
  simp [execOp, hx, hy, Instr.makeSlice, run_underlying ht, asInt, typeInfo, sizeOf, zeroValue, hi', hsz, hb, hz', hw, h1, h3, hNn, askRoom, roomBytes, newRow, newObj, Sem.run, go_sem]
  by_cases h0 : n = 0
  · subst h0
    simp [hNn, h3, h4, show N = 0 from by omega]
    congr 2
    apply Array.ext'
    simp [Array.range]
  · simp [h0, h3, h4, show ¬ N ≤ 0 from by omega, show ¬ N < 0 from by omega]
    show w.alloc (.cells (Array.map (fun x => z.cells[x % z.cells.size]!) (Array.range n)) e) = _
    rw [hz2, harr]
    simp
end
section
variable {P : Program} {ops : Array Oper} {a : Act} {n : Nat} {E : Env} {w W : World} {rest : List Oper} {d : Nat} {Q : Exit → Act → World → Prop} {L : List As} {e t : TypeId} {ty : TypeId} {ps : String} {af : Array Edge} {x y : Operand}
theorem goM {z : Value} {by_ m : Nat} (hA : Ag a n E ds) (hn : Nat.blt d n = true) (hx : evo E x = some (.int .i64 m)) (hy : evo E y = some (.int .i64 m)) (ht : P.underlying t = some (.slice e)) (hi : elemK P e = some (some z, 1, by_)) (hz : z.cells = #[z]) (h1 : by_ * m ≤ 140737488355328) (h2 : m ≤ 140737488355328)
    (s : Sat W w L) (k : ∀ b w', Sat W w' (pto b (.cells (List.replicate m z).toArray e) :: L) → ∀ a', Ag a' n ((d, .slice (some ⟨b, 0, none⟩) m m) :: E) ds → wpList P ops Q rest a' w') : wpList P ops Q (⟨some d, .makeSlice t x y, ty, ps, af, none⟩ :: rest) a w :=
  go1 hA rfl rfl hn (run_make (hA.ev hx) (hA.ev hy) ht hi hz h1 h2) (k _ _ (s.alloc _))
theorem goWX {b j : Nat} {p : Addr} {v u : Value} {cs : List Value} {t' : TypeId} (hA : Ag a n E ds) (hx : evo E x = some (.pointer (some p))) (hp : p = ⟨b, j, none⟩) (hy : evo E y = some v) (ht : flat P t = true) (h1 : (P.info? t).map (·.size) = some 1) (hv : v.oneCell' = true)
    (s : Sat W w (pto b (.cells cs.toArray t' (0, 0)) :: L)) (hj : cs[j]? = some u) (k : ∀ w', Sat W w' (pto b (.cells (cs.set j v).toArray t' (0, 0)) :: L) → wpList P ops Q rest a w') : wpList P ops Q (⟨none, .store t x y, ty, ps, af, none⟩ :: rest) a w := by
  subst hp
  refine goW hA hx hy ht h1 hv s (u := u) (by rw [nth_eq]; simpa using hj) fun w' h => k w' ?_
  simpa using h
theorem Sat.toRow {b m : Nat} {cs : List Value} (s : Sat W w (pto b (.cells cs.toArray e (0, 0)) :: L)) (hl : cs.length = m) (hm : m ≤ 9223372036854775807) : Sat W w (row e 1 (.slice (some ⟨b, 0, none⟩) m m) m cs :: L) :=
  s.imp fun h hb => .inr ⟨b, m, [], (0, 0), rfl, Nat.le_refl _, hm, by simpa using hl, by simpa using hl, unfro.zero _, by simpa [pto] using hb⟩
end
end Go.Proofs.Ytmnekmclpepclaa.K
