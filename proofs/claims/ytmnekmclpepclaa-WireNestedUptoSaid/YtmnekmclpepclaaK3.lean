/- Words of our own for walks: what single operations do, one theorem each (arithmetic, comparisons, slices that are read, built-ins). Plain theorems about the model; no condition. -/
import Derived.Test.YtmnekmclpepclaaK2
set_option linter.unusedVariables false
set_option linter.unusedSimpArgs false
namespace Go.Proofs.Ytmnekmclpepclaa.K
open Go Go.RowKit

section
variable {P : Program} {w : World} {ρ : Operand → Value} {d : Option Tmp} {ty : TypeId} {ps : String} {af : Array Edge} {g : Option (Nat × Bool)}
variable {t yt : TypeId} {x y : Operand} {a b : Int} {k : IntKind}

theorem r_not {c : Bool} (hx : ρ x = .bool c) : (execOp ρ ⟨d, .unOp .not t x, ty, ps, af, g⟩).run P w = .ok (.value (.bool (!c))) w := by
  simp [execOp, hx, Op.unary, go_sem]
theorem wrap_in {k : IntKind} {n : Int} (h0 : k.min ≤ n) (h1 : n ≤ k.max) : k.wrap n = n := by
  cases k <;> simp [IntKind.min, IntKind.max, IntKind.wrap, IntKind.signed, IntKind.bits] at * <;> omega
theorem r_addw (hx : ρ x = .int k a) (hy : ρ y = .int k b) : (execOp ρ ⟨d, .binOp .add t x y yt, ty, ps, af, g⟩).run P w = .ok (.value (.int k (k.wrap (a + b)))) w := by
  simp [execOp, hx, hy, eqGuard, binOp, Op.intArith, go_sem]
theorem r_subw (hx : ρ x = .int k a) (hy : ρ y = .int k b) : (execOp ρ ⟨d, .binOp .sub t x y yt, ty, ps, af, g⟩).run P w = .ok (.value (.int k (k.wrap (a - b)))) w := by
  simp [execOp, hx, hy, eqGuard, binOp, Op.intArith, go_sem]
theorem r_mulw (hx : ρ x = .int k a) (hy : ρ y = .int k b) : (execOp ρ ⟨d, .binOp .mul t x y yt, ty, ps, af, g⟩).run P w = .ok (.value (.int k (k.wrap (a * b)))) w := by
  simp [execOp, hx, hy, eqGuard, binOp, Op.intArith, go_sem]
theorem r_add (hx : ρ x = .int k a) (hy : ρ y = .int k b) (h0 : k.min ≤ a + b) (h1 : a + b ≤ k.max) : (execOp ρ ⟨d, .binOp .add t x y yt, ty, ps, af, g⟩).run P w = .ok (.value (.int k (a + b))) w := by
  rw [r_addw hx hy, wrap_in h0 h1]
theorem r_sub (hx : ρ x = .int k a) (hy : ρ y = .int k b) (h0 : k.min ≤ a - b) (h1 : a - b ≤ k.max) : (execOp ρ ⟨d, .binOp .sub t x y yt, ty, ps, af, g⟩).run P w = .ok (.value (.int k (a - b))) w := by
  rw [r_subw hx hy, wrap_in h0 h1]
theorem r_mul (hx : ρ x = .int k a) (hy : ρ y = .int k b) (h0 : k.min ≤ a * b) (h1 : a * b ≤ k.max) : (execOp ρ ⟨d, .binOp .mul t x y yt, ty, ps, af, g⟩).run P w = .ok (.value (.int k (a * b))) w := by
  rw [r_mulw hx hy, wrap_in h0 h1]
theorem r_add64 (hx : ρ x = .int .i64 a) (hy : ρ y = .int .i64 b) (h0 : -9223372036854775808 ≤ a + b) (h1 : a + b ≤ 9223372036854775807) : (execOp ρ ⟨d, .binOp .add t x y yt, ty, ps, af, g⟩).run P w = .ok (.value (.int .i64 (a + b))) w := r_add hx hy (by simpa [IntKind.min, IntKind.signed, IntKind.bits] using h0) (by simpa [IntKind.max, IntKind.signed, IntKind.bits] using h1)
theorem r_sub64 (hx : ρ x = .int .i64 a) (hy : ρ y = .int .i64 b) (h0 : -9223372036854775808 ≤ a - b) (h1 : a - b ≤ 9223372036854775807) : (execOp ρ ⟨d, .binOp .sub t x y yt, ty, ps, af, g⟩).run P w = .ok (.value (.int .i64 (a - b))) w := r_sub hx hy (by simpa [IntKind.min, IntKind.signed, IntKind.bits] using h0) (by simpa [IntKind.max, IntKind.signed, IntKind.bits] using h1)
theorem r_mul64 (hx : ρ x = .int .i64 a) (hy : ρ y = .int .i64 b) (h0 : -9223372036854775808 ≤ a * b) (h1 : a * b ≤ 9223372036854775807) : (execOp ρ ⟨d, .binOp .mul t x y yt, ty, ps, af, g⟩).run P w = .ok (.value (.int .i64 (a * b))) w := r_mul hx hy (by simpa [IntKind.min, IntKind.signed, IntKind.bits] using h0) (by simpa [IntKind.max, IntKind.signed, IntKind.bits] using h1)
theorem r_quo (hx : ρ x = .int k a) (hy : ρ y = .int k b) (hb : b ≠ 0) : (execOp ρ ⟨d, .binOp .quo t x y yt, ty, ps, af, g⟩).run P w = .ok (.value (.int k (k.wrap (a.tdiv b)))) w := by
  simp [execOp, hx, hy, eqGuard, binOp, Op.intDiv, hb, go_sem]
theorem r_rem (hx : ρ x = .int k a) (hy : ρ y = .int k b) (hb : b ≠ 0) : (execOp ρ ⟨d, .binOp .rem t x y yt, ty, ps, af, g⟩).run P w = .ok (.value (.int k (a.tmod b))) w := by
  simp [execOp, hx, hy, eqGuard, binOp, Op.intDiv, hb, go_sem]
theorem r_eql (hx : ρ x = .int k a) (hy : ρ y = .int k b) : (execOp ρ ⟨d, .binOp .eql t x y yt, ty, ps, af, g⟩).run P w = .ok (.value (.bool (decide (a = b)))) w := by
  simp [execOp, hx, hy, eqGuard, binOp, Op.intCmp, go_sem]
  rw [Bool.eq_iff_iff]; simp
theorem r_neq (hx : ρ x = .int k a) (hy : ρ y = .int k b) : (execOp ρ ⟨d, .binOp .neq t x y yt, ty, ps, af, g⟩).run P w = .ok (.value (.bool (decide (a ≠ b)))) w := by
  simp [execOp, hx, hy, eqGuard, binOp, Op.intCmp, go_sem]
  rw [Bool.eq_iff_iff]; simp
theorem r_lss (hx : ρ x = .int k a) (hy : ρ y = .int k b) : (execOp ρ ⟨d, .binOp .lss t x y yt, ty, ps, af, g⟩).run P w = .ok (.value (.bool (decide (a < b)))) w := by
  simp [execOp, hx, hy, eqGuard, binOp, Op.intCmp, go_sem]
theorem r_leq (hx : ρ x = .int k a) (hy : ρ y = .int k b) : (execOp ρ ⟨d, .binOp .leq t x y yt, ty, ps, af, g⟩).run P w = .ok (.value (.bool (decide (a ≤ b)))) w := by
  simp [execOp, hx, hy, eqGuard, binOp, Op.intCmp, go_sem]
theorem r_gtr (hx : ρ x = .int k a) (hy : ρ y = .int k b) : (execOp ρ ⟨d, .binOp .gtr t x y yt, ty, ps, af, g⟩).run P w = .ok (.value (.bool (decide (b < a)))) w := by
  simp [execOp, hx, hy, eqGuard, binOp, Op.intCmp, go_sem]
theorem r_geq (hx : ρ x = .int k a) (hy : ρ y = .int k b) : (execOp ρ ⟨d, .binOp .geq t x y yt, ty, ps, af, g⟩).run P w = .ok (.value (.bool (decide (b ≤ a)))) w := by
  simp [execOp, hx, hy, eqGuard, binOp, Op.intCmp, go_sem]
theorem equal_step (t : TypeId) (x y : Value) : ∃ d, Op.equal t x y = Op.equalIn (d + 1) t x y := ⟨9999, rfl⟩
theorem r_eqb {a b : Bool} (hx : ρ x = .bool a) (hy : ρ y = .bool b) (ht : P.underlying t = some .bool) : (execOp ρ ⟨d, .binOp .eql t x y yt, ty, ps, af, g⟩).run P w = .ok (.value (.bool (a == b))) w := by
  obtain ⟨D, hD⟩ := equal_step t (.bool a) (.bool b)
  simp [execOp, hx, hy, eqGuard, binOp, hD, Op.equalIn, run_underlying ht, go_sem]
theorem r_neb {a b : Bool} (hx : ρ x = .bool a) (hy : ρ y = .bool b) (ht : P.underlying t = some .bool) : (execOp ρ ⟨d, .binOp .neq t x y yt, ty, ps, af, g⟩).run P w = .ok (.value (.bool (a != b))) w := by
  obtain ⟨D, hD⟩ := equal_step t (.bool a) (.bool b)
  simp [execOp, hx, hy, eqGuard, binOp, hD, Op.equalIn, run_underlying ht, go_sem]
  cases a <;> cases b <;> rfl
theorem r_eqs {a b : ByteArray} (hx : ρ x = .string a) (hy : ρ y = .string b) : (execOp ρ ⟨d, .binOp .eql t x y yt, ty, ps, af, g⟩).run P w = .ok (.value (.bool (a.toList == b.toList))) w := by
  simp [execOp, hx, hy, eqGuard, binOp, Op.stringOp, go_sem]
theorem r_nes {a b : ByteArray} (hx : ρ x = .string a) (hy : ρ y = .string b) : (execOp ρ ⟨d, .binOp .neq t x y yt, ty, ps, af, g⟩).run P w = .ok (.value (.bool (!(a.toList == b.toList)))) w := by
  simp [execOp, hx, hy, eqGuard, binOp, Op.stringOp, go_sem]
/-- A pointer held against nil. -/
theorem r_eqpn {e : TypeId} {p : Option Addr} (hx : ρ x = .pointer p) (hy : ρ y = .pointer none) (ht : P.underlying t = some (.pointer e)) : (execOp ρ ⟨d, .binOp .eql t x y yt, ty, ps, af, g⟩).run P w = .ok (.value (.bool p.isNone)) w := by
  obtain ⟨D, hD⟩ := equal_step t (.pointer p) (.pointer none)
  cases p <;> simp [execOp, hx, hy, eqGuard, binOp, hD, Op.equalIn, run_underlying ht, go_sem]
theorem r_nepn {e : TypeId} {p : Option Addr} (hx : ρ x = .pointer p) (hy : ρ y = .pointer none) (ht : P.underlying t = some (.pointer e)) : (execOp ρ ⟨d, .binOp .neq t x y yt, ty, ps, af, g⟩).run P w = .ok (.value (.bool p.isSome)) w := by
  obtain ⟨D, hD⟩ := equal_step t (.pointer p) (.pointer none)
  cases p <;> simp [execOp, hx, hy, eqGuard, binOp, hD, Op.equalIn, run_underlying ht, go_sem]
theorem r_eqsn {e : TypeId} {p : Option Addr} {n c : Nat} (hx : ρ x = .slice p n c) (hy : ρ y = .slice none 0 0) (ht : P.underlying t = some (.slice e)) : (execOp ρ ⟨d, .binOp .eql t x y yt, ty, ps, af, g⟩).run P w = .ok (.value (.bool p.isNone)) w := by
  obtain ⟨D, hD⟩ := equal_step t (.slice p n c) (.slice none 0 0)
  cases p <;> simp [execOp, hx, hy, eqGuard, binOp, hD, Op.equalIn, run_underlying ht, go_sem]
theorem r_nesn {e : TypeId} {p : Option Addr} {n c : Nat} (hx : ρ x = .slice p n c) (hy : ρ y = .slice none 0 0) (ht : P.underlying t = some (.slice e)) : (execOp ρ ⟨d, .binOp .neq t x y yt, ty, ps, af, g⟩).run P w = .ok (.value (.bool p.isSome)) w := by
  obtain ⟨D, hD⟩ := equal_step t (.slice p n c) (.slice none 0 0)
  cases p <;> simp [execOp, hx, hy, eqGuard, binOp, hD, Op.equalIn, run_underlying ht, go_sem]

/-! the truth of a test, known -/
theorem as_t {r : Result Next} {c : Prop} [Decidable c] (h : r = .ok (.value (.bool (decide c))) w) (hc : c) : r = .ok (.value (.bool true)) w := by rw [h, decide_eq_true hc]
theorem as_f {r : Result Next} {c : Prop} [Decidable c] (h : r = .ok (.value (.bool (decide c))) w) (hc : ¬ c) : r = .ok (.value (.bool false)) w := by rw [h, decide_eq_false hc]
theorem as_bool {r : Result Next} {c c' : Bool} (h : r = .ok (.value (.bool c)) w) (hc : c = c') : r = .ok (.value (.bool c')) w := by rw [h, hc]
theorem as_val {r : Result Next} {u v : Value} (h : r = .ok (.value u) w) (e : u = v) : r = .ok (.value v) w := by rw [h, e]

/-! built-ins -/
theorem r_lens {e : TypeId} {p : Option Addr} {n c : Nat} (hx : ρ x = .slice p n c) (ht : P.underlying t = some (.slice e)) : (execOp ρ ⟨d, .call { callee := .builtin .len, args := #[x], argTypes := #[t] }, ty, ps, af, g⟩).run P w = .ok (.value (.int .i64 (n : Int))) w := by
  simp [execOp, resolve, hx, invoke, builtin, Builtin.len_, run_underlying ht, goInt, go_sem]
theorem r_lenstr {s : ByteArray} (hx : ρ x = .string s) (ht : P.underlying t = some .string) : (execOp ρ ⟨d, .call { callee := .builtin .len, args := #[x], argTypes := #[t] }, ty, ps, af, g⟩).run P w = .ok (.value (.int .i64 (s.size : Int))) w := by
  simp [execOp, resolve, hx, invoke, builtin, Builtin.len_, run_underlying ht, goInt, go_sem]
theorem r_min2 {tt : Array TypeId} (hx : ρ x = .int k a) (hy : ρ y = .int k b) : (execOp ρ ⟨d, .call { callee := .builtin .min, args := #[x, y], argTypes := tt }, ty, ps, af, g⟩).run P w = .ok (.value (.int k (min a b))) w := by
  have h : (if b < a then b else a) = min a b := by omega
  simp [execOp, resolve, hx, hy, invoke, builtin, Builtin.min_, Builtin.min2, go_sem, h]
theorem r_max2 {tt : Array TypeId} (hx : ρ x = .int k a) (hy : ρ y = .int k b) : (execOp ρ ⟨d, .call { callee := .builtin .max, args := #[x, y], argTypes := tt }, ty, ps, af, g⟩).run P w = .ok (.value (.int k (max a b))) w := by
  have h : (if a < b then b else a) = max a b := by omega
  simp [execOp, resolve, hx, hy, invoke, builtin, Builtin.max_, Builtin.max2, go_sem, h]

/-! slices -/
theorem r_index {e : TypeId} {p : Addr} {n c z : Nat} {i : Int} (hx : ρ x = .slice (some p) n c) (hy : ρ y = .int k i) (ht : P.underlying t = some (.slice e)) (hz : (P.info? e).map (·.size) = some z) (h0 : 0 ≤ i) (h1 : i < n) :
    (execOp ρ ⟨d, .indexAddr t x y, ty, ps, af, g⟩).run P w = .ok (.value (.pointer (some (p.add (i.toNat * z))))) w := by
  obtain ⟨j, hj, hjz⟩ := Option.map_eq_some_iff.1 hz
  simp [execOp, hx, hy, Instr.indexAt, run_underlying ht, asIntOf, sizeOf, typeInfo, hj, hjz, h0, h1, go_sem]
theorem r_box {e : TypeId} {v : Value} (hx : ρ x = v) : (execOp ρ ⟨d, .box e x, ty, ps, af, g⟩).run P w = .ok (.value (.pointer (some ⟨w.heap.size, 0, none⟩))) (w.alloc (.cells v.cells e)) := by
  simp [execOp, hx, Instr.box, newVar, newRow, newObj, Sem.run, go_sem]
theorem r_alloc {e : TypeId} {v : Value} (hz : (P.info? e).bind (·.zero) = some v) : (execOp ρ ⟨d, .alloc e, ty, ps, af, g⟩).run P w = .ok (.value (.pointer (some ⟨w.heap.size, 0, none⟩))) (w.alloc (.cells v.cells e)) := by
  cases hi : P.info? e with
  | none => simp [hi] at hz
  | some i => simp [hi] at hz; simp [execOp, Instr.alloc, zeroValue, typeInfo, hi, hz, newVar, newRow, newObj, Sem.run, go_sem]
end
end Go.Proofs.Ytmnekmclpepclaa.K
