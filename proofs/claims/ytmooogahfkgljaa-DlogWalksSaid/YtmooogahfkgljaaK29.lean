/- Words of our own for walks: a walk of single operations told again within a round of a range over a function. Plain theorems about the model; no condition. -/
import Derived.Test.YtmooogahfkgljaaK28
import Derived.RangeFuncNested
import Derived.RangeFuncCalls
import Derived.RangeFuncLeaves
import Derived.OwnWalkIn
set_option linter.unusedVariables false
set_option linter.unusedSimpArgs false
namespace Go.Proofs.Ytmooogahfkgljaa.K
open Go Go.RowKit
/-- The wide fence, plain or in a round. -/
structure Open (F : Fence) : Prop where
  fn : ∀ f, F.fn f
  depth : F.depth = none
  calls : ∀ {P : Program} {m : Nat} {f : FuncId} {args : Array Value} {w : World} {R : Ending → World → Prop}, Calls P f args w R → CallsIn F m P f args w R
  rows : ∀ {P : Program} {m : Nat} {row : String} {args : Array Value} {w : World} {R : Value → World → Prop}, Rows P row args w R → RowsIn F m P row args w R
theorem rows_wide {P : Program} {m : Nat} {row : String} {args : Array Value} {w : World} {R : Value → World → Prop} (h : Rows P row args w R) : RowsIn Fence.wide m P row args w R :=
  fun c cs _ => let ⟨v, w', r, s⟩ := h c cs; ⟨v, w', r, stepsIn_wide.2 s⟩
theorem open_wide : Open Fence.wide := ⟨fun _ => trivial, rfl, fun h => callsIn_wide.2 h, rows_wide⟩
theorem open_round (l : Nat) : Open (Fence.wide.inRound l) := ⟨fun _ => trivial, rfl, fun h => CallsIn.inRound l (callsIn_wide.2 h), fun h => rows_wide h⟩
def noDefer (o : Oper) : Bool := match o.op with | .defer _ => false | _ => true
theorem noDefer_of {o : Oper} (h : noDefer o = true) : ∀ c, o.op ≠ .defer c := fun c e => by unfold noDefer at h; rw [e] at h; cases h
section
variable {P : Program} {ops : Array Oper} {Q : Exit → Act → World → Prop} {F : Fence} {m : Nat}
theorem upon_in (hF : Open F) {Q' : Exit → Act → World → Prop} {o : Oper} {a : Act} {next next' : Act → World → Prop} (hp : ∀ ch a w, Q (.panic ch) a w → Q' (.panic ch) a w) (hl : LetsOut Q → LetsOut Q') (hn : ∀ a w, next a w → next' a w) : ∀ r : Result Next, o.upon P a next Q r → o.uponIn F m P a next' Q' r
  | .ok (.value v) w', h => hn _ _ h
  | .ok .skip w', h => hn _ _ h
  | .ok (.defer d) w', h => hn _ _ h
  | .ok (.enter f args) w', h => ⟨(fun hd => by rw [hF.depth] at hd; cases hd), hF.calls (Calls.mono h fun e w'' hh => by
      cases e with
      | returned v => exact hn _ _ hh
      | panicked ch => exact hp _ _ _ hh
      | outgrown => exact hl hh)⟩
  | .ok (.row row args) w', h => ⟨(fun hd => by rw [hF.depth] at hd; cases hd), hF.rows (Rows.mono h fun v w'' hh => hn _ _ hh)⟩
  | .ok (.round l f tmps assign body) w', h => False.elim h
  | .halt h0 w', h => by
    cases h0 <;> first | exact hp _ _ _ h | exact False.elim h
theorem list_in (hF : Open F) (hQ : ¬ LetsOut Q) {K : Act → World → Prop} {l2 : List Oper} (hK : ∀ a w, K a w → wpListIn F m P ops Q l2 a w) :
    ∀ (l : List Oper) (a : Act) (w : World), l.all noDefer = true → wpList P ops (Exit.then K Q) l a w → wpListIn F m P ops Q (l ++ l2) a w
  | [], a, w, _, h => hK a w h
  | o :: l, a, w, hd, h => by
    simp only [List.all_cons, Bool.and_eq_true] at hd
    simp only [wpList] at h
    simp only [List.cons_append, wpListIn]
    have hQ2 : ¬ LetsOut (Exit.then K Q) := fun ⟨a0, w0, q⟩ => hQ ⟨a0, w0, q⟩
    split at h
    · rename_i hw
      rw [if_pos hw]
      rcases h with h | ⟨_, h⟩
      · refine ⟨fun f _ => hF.fn f, ?_⟩
        rw [Oper.semAt_plain F _ o (noDefer_of hd.1)]
        exact upon_in (F := F) (m := m) hF (fun ch a w h => h) (fun h => absurd h hQ2) (fun a w hh => list_in hF hQ hK l a w hd.2 hh) _ h
      · exact absurd h hQ2
    · rename_i hw
      rw [if_neg hw]
      exact ⟨fun f _ => hF.fn f, list_in hF hQ hK l _ w hd.2 h⟩
/-- A region in text order, within a round. -/
theorem region_in (hF : Open F) (hQ : ¬ LetsOut Q) {id : Nat} {l : List Oper} {a : Act} {w : World} (hd : l.all noDefer = true) (h : wpList P l.toArray Q l a w) : (Code.region id l.toArray false).wpIn F m P Q a w := by
  refine wpIn_region_lit ?_
  have h2 : wpList P l.toArray (Exit.then (Q .normal) Q) l a w := by
    have e : Exit.then (Q .normal) Q = Q := by
      funext e a w
      cases e <;> rfl
    rw [e]; exact h
  have := list_in (F := F) (m := m) (l2 := []) hF hQ (fun a w hh => hh) l a w hd h2
  rwa [List.append_nil] at this
end
end Go.Proofs.Ytmooogahfkgljaa.K
