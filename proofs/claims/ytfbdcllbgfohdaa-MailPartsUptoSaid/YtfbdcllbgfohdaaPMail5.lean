/- A mail's carts and bodies. Conditions: at most 10 to the 12 parts. -/
import Derived.Test.YtfbdcllbgfohdaaPMail4
import Derived.Test.YtfbdcllbgfohdaaWkMailForms
import Derived.Test.YtfbdcllbgfohdaaWkCarts
set_option linter.unusedVariables false
set_option linter.unusedSimpArgs false
namespace Go.Proofs.Ytfbdcllbgfohdaa.Wk
open Go Go.RowKit Go.Proofs.Ytfbdcllbgfohdaa Go.Proofs.Ytfbdcllbgfohdaa.K
/-! a mail's carts and bodies -/
def bodyOf : List PartW → Int → Bool × List UInt8
  | [], _ => (false, [])
  | p :: ps, c => if p.cart = c then (true, p.b) else bodyOf ps c
def anyC (ps : List PartW) (c : Int) : Bool := ps.any fun p => decide (p.cart = c)
theorem bodyOf_any : ∀ (ps : List PartW) (c : Int), (bodyOf ps c).1 = anyC ps c
  | [], _ => rfl
  | p :: ps, c => by
    have ih := bodyOf_any ps c
    show (if p.cart = c then (true, p.b) else bodyOf ps c).1 = (decide (p.cart = c) || anyC ps c)
    by_cases h : p.cart = c
    · rw [if_pos h]; simp [h]
    · rw [if_neg h, ih]; simp [h]
theorem bodyOf_none : ∀ {ps : List PartW} {c : Int}, anyC ps c = false → bodyOf ps c = (false, [])
  | [], _, _ => rfl
  | p :: ps, c, h => by
    unfold anyC at h
    simp only [List.any_cons, Bool.or_eq_false_iff, decide_eq_false_iff_not] at h
    unfold bodyOf
    rw [if_neg h.1]
    exact bodyOf_none (ps := ps) h.2
theorem bodyOf_val : ∀ {ps qs : List PartW} (c : Int), ps.map PartW.val = qs.map PartW.val → bodyOf ps c = bodyOf qs c
  | [], [], _, _ => rfl
  | [], q :: qs, _, h => by simp at h
  | p :: ps, [], _, h => by simp at h
  | p :: ps, q :: qs, c, h => by
    simp only [List.map_cons, List.cons.injEq] at h
    have h1 : (p.cart, p.b) = (q.cart, q.b) := h.1
    injection h1 with h2 h3
    unfold bodyOf
    rw [h2, h3, bodyOf_val c h.2]
theorem found_bodyOf : ∀ (ps : List PartW) (c : Int), Wm.Found (ps.map toD) c (bodyOf ps c).1 (ints (bodyOf ps c).2)
  | [], c => .inr ⟨rfl, rfl, fun j q hq => by simp at hq⟩
  | p :: ps, c => by
    unfold bodyOf
    by_cases h : p.cart = c
    · rw [if_pos h]
      exact .inl ⟨rfl, 0, toD p, rfl, h, fun j q hj => absurd hj (by omega), rfl⟩
    · rw [if_neg h]
      rcases found_bodyOf ps c with ⟨h1, i, q, hq, hc, hn, hy⟩ | ⟨h1, h2, h3⟩
      · refine .inl ⟨h1, i + 1, q, hq, hc, fun j r hj hr => ?_, hy⟩
        cases j with
        | zero => simp at hr; subst hr; exact h
        | succ j => exact hn j r (by omega) hr
      · refine .inr ⟨h1, h2, fun j q hq => ?_⟩
        cases j with
        | zero => simp at hq; subst hq; exact h
        | succ j => exact h3 j q hq
theorem good_lt {cs : List Int} (h : GoodC cs) : ∀ (j i : Nat) (c d : Int), i < j → cs[j]? = some c → cs[i]? = some d → d < c := by
  intro j
  induction j with
  | zero => intro i c d hi; omega
  | succ j ih =>
    intro i c d hi hc hd
    have hlt := (List.getElem?_eq_some_iff.1 hc).1
    obtain ⟨x, hx⟩ : ∃ x, cs[j]? = some x := ⟨_, List.getElem?_eq_getElem (by omega)⟩
    have h1 := (h (j + 1) c hc).2.2 x (by omega) hx
    by_cases hij : i = j
    · subst hij; rw [hx] at hd; cases hd; exact h1
    · have := ih i x d (by omega) hx hd; omega
theorem bodyOf_at {ps : List PartW} {i : Nat} {p : PartW} (hG : GoodC (ps.map PartW.cart)) (hp : ps[i]? = some p) : bodyOf ps p.cart = (true, p.b) := by
  have hf : Wm.Found (ps.map toD) p.cart true (ints p.b) := .inl ⟨rfl, i, toD p, by rw [List.getElem?_map, hp]; rfl, rfl, fun j q hj hq => by
    rw [List.getElem?_map] at hq
    cases hr : ps[j]? with
    | none => rw [hr] at hq; cases hq
    | some r =>
      rw [hr] at hq
      obtain rfl : toD r = q := Option.some.inj hq
      have := good_lt hG i j p.cart r.cart hj (by rw [List.getElem?_map, hp]; rfl) (by rw [List.getElem?_map, hr]; rfl)
      show r.cart ≠ p.cart
      omega, rfl⟩
  obtain ⟨h1, h2⟩ := Wm.Found.one (found_bodyOf ps p.cart) hf
  exact Prod.ext h1 (ints_inj.1 h2)
theorem anyC_succ {ps : List PartW} {i : Nat} {p : PartW} {c : Int} (h : ps[i]? = some p) : anyC (ps.take (i + 1)) c = (anyC (ps.take i) c || decide (p.cart = c)) := by
  unfold anyC; rw [List.take_add_one, h]; simp
section
variable (W : World) (k f t lo hi : Int) (A : Option Addr) (c : Nat) (ps : List PartW)
theorem CartsW (hR : Rd W 2 (.slice A ps.length c) ps.length (ps.flatMap encW)) (hlen : ps.length ≤ 1000000000000) :
    Calls Try.prog 21 #[MG k f t lo hi A ps.length c] W fun e w' => ∃ A' c', e = .returned (.slice A' ps.length c') ∧ Sat W w' [row 3 1 (.slice A' ps.length c') ps.length ((ps.map PartW.cart).map (Value.int .i64))] := by
  have h := Wm.Carts_calls W k f t lo hi A c (ps.map toD) (by rw [lenD, flatD]; exact hR) (by rw [lenD]; omega)
  have e : Wm.cartsOf (ps.map toD) = (ps.map PartW.cart).map (Value.int .i64) := by unfold Wm.cartsOf; simp [List.map_map, Function.comp_def, toD]
  rw [lenD, e] at h; exact h
theorem BodyW (cart : Int) (hR : Rd W 2 (.slice A ps.length c) ps.length (ps.flatMap encW)) (hlen : ps.length ≤ 1000000000000) (hB : BodW W ps) :
    Calls Try.prog 22 #[MG k f t lo hi A ps.length c, .int .i64 cart] W fun e w' => ∃ A' c', e = .returned (.tuple #[.slice A' (bodyOf ps cart).2.length c', .bool (bodyOf ps cart).1]) ∧ Sat W w' [RB A' c' (bodyOf ps cart).2] := by
  have h := Wm.Body_calls W k f t lo hi A c (ps.map toD) cart (by rw [lenD, flatD]; exact hR) (by rw [lenD]; omega) (bodD hB)
  rw [lenD] at h
  refine h.mono fun e w' ⟨A', c', ys, found, he, hf, hS⟩ => ?_
  obtain ⟨h1, h2⟩ := Wm.Found.one hf (found_bodyOf ps cart)
  subst h1 h2
  rw [ints_len] at he hS
  rw [ints_cells] at hS
  exact ⟨A', c', he, hS⟩
end
theorem cart_same {ps qs : List PartW} {i : Nat} {q : PartW} {cc : Int} (hv : ps.map PartW.val = qs.map PartW.val) (hq : qs[i]? = some q) (hc : (ps.map PartW.cart)[i]? = some cc) : cc = q.cart := by
  have h1 : (ps.map PartW.val)[i]? = (qs.map PartW.val)[i]? := by rw [hv]
  rw [List.getElem?_map, List.getElem?_map, hq] at h1
  rw [List.getElem?_map] at hc
  cases h2 : ps[i]? with
  | none => rw [h2] at h1; cases h1
  | some z =>
    rw [h2] at h1 hc
    have h4 : (z.cart, z.b) = (q.cart, q.b) := Option.some.inj h1
    injection h4 with h5 h6
    exact (Option.some.inj hc).symm.trans h5
end Go.Proofs.Ytfbdcllbgfohdaa.Wk
