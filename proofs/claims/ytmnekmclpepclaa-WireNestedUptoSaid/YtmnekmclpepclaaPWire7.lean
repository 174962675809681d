/- How wire.Read is left. No condition of its own. -/
import Derived.Test.YtmnekmclpepclaaPWire6
set_option linter.unusedVariables false
set_option linter.unusedSimpArgs false
namespace Go.Proofs.Ytmnekmclpepclaa.Wk
open Go Go.RowKit Go.Proofs.Ytmnekmclpepclaa Go.Proofs.Ytmnekmclpepclaa.K
/-! how wire.Read is left -/
def dead (r : Nat) (at_ err : Int) : As := pto r (.cells #[.slice none 0 0, .int .i64 at_, .bool false, .int .i64 err] 100)
def cellP (q r : Nat) : As := pto q (.cells #[.pointer (some ⟨r, 0, none⟩)] 60)
def cellE (p : Nat) (x : Int) : As := pto p (.cells #[.int .i64 x] 23)
set_option maxRecDepth 100000 in
theorem read_leaves {R : Ending → World → Prop} {a : Act} {E : Env} (W w : World) (L : List As) (r q p : Nat) (at_ err : Int) (x : Value) (u u' : FrameMode) (hu : u ≠ .run)
    (hx : ∀ (c₀ : Frame) (cs : List Frame), c₀.mode = u → recoverD (c₀ :: cs) = some (x, { c₀ with mode := u' } :: cs) ∨ (recoverD (c₀ :: cs) = none ∧ x = .nilIface ∧ u' = u)) (hset : settle u' = .returning) (fin : Int)
    (htail : ∀ a, Ag a 59 [(0, .pointer (some ⟨q, 0, none⟩)), (1, .pointer (some ⟨p, 0, none⟩)), (2, x)] → (restOf Try.f58.body).wp Try.prog (bodyPost Try.prog Try.f58 fun e w' => e = .returned (.tuple #[]) ∧ Sat W w' (dead r at_ err :: cellP q r :: cellE p fin :: L)) a w)
    (hA : AgD [{ target := .fn (.func 58) #[.pointer (some ⟨q, 0, none⟩), .pointer (some ⟨p, 0, none⟩)], args := #[] }] a 15 E) (h4 : find 4 E = some (.pointer (some ⟨p, 0, none⟩)))
    (hR : ∀ w', Sat W w' (dead r at_ err :: cellP q r :: cellE p fin :: L) → R (.returned (.int .i64 fin)) w') : Leaves Try.prog Try.f26 a.tmps R a.defers u w := by
  rw [hA.defers]
  have hinv : (invoke (.fn (.func 58) #[.pointer (some ⟨q, 0, none⟩), .pointer (some ⟨p, 0, none⟩)]) #[]).run Try.prog w = .ok (.enter 58 #[.pointer (some ⟨q, 0, none⟩), .pointer (some ⟨p, 0, none⟩)]) w := by
    have h := run_callFunc (w := w) (args := #[.pointer (some ⟨q, 0, none⟩), .pointer (some ⟨p, 0, none⟩)]) T.en58
    have e : (#[] : Array Value) ++ #[.pointer (some ⟨q, 0, none⟩), .pointer (some ⟨p, 0, none⟩)] = #[.pointer (some ⟨q, 0, none⟩), .pointer (some ⟨p, 0, none⟩)] := by simp
    show (callFunc 58 ((#[] : Array Value) ++ #[.pointer (some ⟨q, 0, none⟩), .pointer (some ⟨p, 0, none⟩)])).run Try.prog w = _
    rw [e, h]
  refine leaves_cons hu hinv (CallsD.mono (read1_enter x u u' w q p hx htail) fun e v w' hh => ?_)
  obtain ⟨rfl, rfl, hS⟩ := hh
  show Leaves Try.prog Try.f26 a.tmps R [] (settle v) w'
  rw [hset]
  have hc : w'.cell? ⟨p, 0, none⟩ = some (.int .i64 fin) := by
    have h2 := hS.p 2
    unfold cellE at h2
    exact h2.cell rfl
  have hres := resC (P := Try.prog) (w := w') (s := 4) (t := 23) hA.base h4 T.fl23 hc
  refine ⟨.int .i64 fin, ?_, hR w' hS⟩
  rw [results_eq]
  show (((#[ResultVar.cell 4 23] : Array ResultVar).mapM (resOf a.tmps)).bind _).run Try.prog w' = _
  rw [Sem.run_bind', mapM1 hres]
  rfl
end Go.Proofs.Ytmnekmclpepclaa.Wk
