/- Rows of asks: plain mathematics. No condition. -/
import Derived.Test.YtmnekmclpepclaaPWire8
set_option linter.unusedVariables false
set_option linter.unusedSimpArgs false
namespace Go.Proofs.Ytmnekmclpepclaa.Wk
open Go Go.RowKit Go.Proofs.Ytmnekmclpepclaa Go.Proofs.Ytmnekmclpepclaa.K
/-! rows of asks -/
def app (gs : List GotD) (r : List GotD × Nat × Int) : List GotD × Nat × Int := (gs ++ r.1, r.2)
/-- What asks answer from a place on, up to the one that gives up; the place behind them; the error. -/
def fromA (bs : List UInt8) : Nat → List AskD → List GotD × Nat × Int
  | i, [] => ([], i, 0)
  | i, a :: l => if (oneA bs i a).2.2 ≠ 0 then ([], i, (oneA bs i a).2.2) else app [(oneA bs i a).1] (fromA bs (oneA bs i a).2.1 l)
theorem app_app (gs hs : List GotD) (r : List GotD × Nat × Int) : app gs (app hs r) = app (gs ++ hs) r := by simp [app]
theorem app_nil (r : List GotD × Nat × Int) : app [] r = r := rfl
theorem from_end {bs : List UInt8} {i k : Nat} {l : List AskD} (h : l.length ≤ k) : fromA bs i (l.drop k) = ([], i, 0) := by rw [List.drop_eq_nil_of_le h]; rfl
theorem from_ok {bs : List UInt8} {i k : Nat} {l : List AskD} {x : AskD} (h : l[k]? = some x) (h0 : (oneA bs i x).2.2 = 0) : fromA bs i (l.drop k) = app [(oneA bs i x).1] (fromA bs (oneA bs i x).2.1 (l.drop (k + 1))) := by
  obtain ⟨hk, he⟩ := List.getElem?_eq_some_iff.1 h
  rw [List.drop_eq_getElem_cons hk, he, fromA, if_neg (by simp [h0])]
theorem from_err {bs : List UInt8} {i k : Nat} {l : List AskD} {x : AskD} (h : l[k]? = some x) (h0 : (oneA bs i x).2.2 ≠ 0) : fromA bs i (l.drop k) = ([], i, (oneA bs i x).2.2) := by
  obtain ⟨hk, he⟩ := List.getElem?_eq_some_iff.1 h
  rw [List.drop_eq_getElem_cons hk, he, fromA, if_pos h0]
/-- As far as one has come. -/
theorem from_step {bs : List UInt8} {i k : Nat} {l : List AskD} {x : AskD} {gs : List GotD} {r : List GotD × Nat × Int} (hF : r = app gs (fromA bs i (l.drop k))) (h : l[k]? = some x) (h0 : (oneA bs i x).2.2 = 0) : r = app (gs ++ [(oneA bs i x).1]) (fromA bs (oneA bs i x).2.1 (l.drop (k + 1))) := by
  rw [hF, from_ok h h0, app_app]
theorem from_stop {bs : List UInt8} {i k : Nat} {l : List AskD} {x : AskD} {gs : List GotD} {r : List GotD × Nat × Int} (hF : r = app gs (fromA bs i (l.drop k))) (h : l[k]? = some x) (h0 : (oneA bs i x).2.2 ≠ 0) : r = (gs, i, (oneA bs i x).2.2) := by
  rw [hF, from_err h h0]; simp [app]
theorem from_over {bs : List UInt8} {i k : Nat} {l : List AskD} {gs : List GotD} {r : List GotD × Nat × Int} (hF : r = app gs (fromA bs i (l.drop k))) (h : l.length ≤ k) : r = (gs, i, 0) := by
  rw [hF, from_end h]; simp [app]
theorem one_place {bs : List UInt8} {i : Nat} {a : AskD} (hi : i ≤ bs.length) (h0 : (oneA bs i a).2.2 = 0) : (oneA bs i a).2.1 ≤ bs.length := by
  by_cases h1 : a.k = 1
  · rw [oneA1 h1] at h0 ⊢
    rcases upR_law (mo := a.n) hi with h | ⟨_, _, h, _⟩
    · simp at h0; exact absurd h0 h
    · exact h
  by_cases h2 : a.k = 2
  · rw [oneA2 h2] at h0 ⊢
    show (flR bs i).2.1 ≤ bs.length
    unfold flR at h0 ⊢
    cases hx : bs[i]? with
    | none => rw [hx] at h0; simp at h0
    | some x =>
      have := (List.getElem?_eq_some_iff.1 hx).1
      simp only
      split
      · simp
      · exact this
  by_cases h5 : a.k = 5
  · rw [oneA5 h5] at h0 ⊢
    show (cnR bs i a.n).2.1 ≤ bs.length
    have h0 : (((cnR bs i a.n).2.2 : Nat) : Int) = 0 := h0
    unfold cnR at h0 ⊢
    by_cases hr : (rdA bs i).2.2 = 0
    · have hok := rdA_ok hr
      rw [if_neg (by omega)] at h0 ⊢
      split
      · simp
      · exact hok.2.1
    · rw [if_pos hr]; simp
  by_cases h34 : a.k = 3 ∨ a.k = 4
  · rw [oneA34 h34] at h0 ⊢
    rcases pcR_law (mo := a.n) hi with h | ⟨_, _, h⟩
    · simp at h0; exact absurd h0 h
    · exact h
  by_cases h6 : a.k = 6
  · rw [oneA6 h6]; exact hi
  by_cases h7 : a.k = 7
  · rw [oneA7 h7]; simp
  by_cases h8 : a.k = 8
  · rw [oneA8 h8]; simp
  rw [oneA0 h1 h2 (by omega) (by omega) h5 h6 h7 h8]; exact hi
/-- What asks answer, and Read's error. -/
def rdAll (bs : List UInt8) (l : List AskD) : List GotD × Int := ((fromA bs 0 l).1, if (fromA bs 0 l).2.2 ≠ 0 then (fromA bs 0 l).2.2 else if (fromA bs 0 l).2.1 < bs.length then 52 else 0)
theorem rdAll_err {bs : List UInt8} {l : List AskD} {gs : List GotD} {i : Nat} {e : Int} (h : fromA bs 0 l = (gs, i, e)) (h0 : e ≠ 0) : rdAll bs l = (gs, e) := by unfold rdAll; rw [h]; simp [h0]
theorem rdAll_rest {bs : List UInt8} {l : List AskD} {gs : List GotD} {i : Nat} (h : fromA bs 0 l = (gs, i, 0)) (h0 : i < bs.length) : rdAll bs l = (gs, 52) := by unfold rdAll; rw [h]; simp [h0]
theorem rdAll_ok {bs : List UInt8} {l : List AskD} {gs : List GotD} {i : Nat} (h : fromA bs 0 l = (gs, i, 0)) (h0 : ¬ i < bs.length) : rdAll bs l = (gs, 0) := by unfold rdAll; rw [h]; simp [h0]
theorem ask_at {l : List AskD} {i : Int} {x : AskD} (h : l[i.toNat]? = some x) : ∀ j u, (encA x)[j]? = some u → (l.flatMap encA)[i.toNat * 2 + j]? = some u := flat_at encA 2 (fun _ => rfl) l _ x h
theorem got_at {l : List GotD} {i : Int} {x : GotD} (h : l[i.toNat]? = some x) : ∀ j u, (encG x)[j]? = some u → (l.flatMap encG)[i.toNat * 3 + j]? = some u := flat_at encG 3 (fun _ => rfl) l _ x h
theorem got_snoc (gs : List GotD) (g : GotD) : gs.flatMap encG ++ encG g = (gs ++ [g]).flatMap encG := by simp
theorem got_one (gs : List GotD) : ∀ u ∈ gs.flatMap encG, u.oneCell' = true := by
  intro u hu
  obtain ⟨g, _, hg⟩ := List.mem_flatMap.1 hu
  simp [encG] at hg
  rcases hg with rfl | rfl | rfl <;> rfl
theorem b_full {bs : List UInt8} : ((bs.map bcell).take (min (bs.length + 9) bs.length * 1) ++ (List.replicate (bs.length + 9) (Value.int .u8 0)).drop (min (bs.length + 9) bs.length * 1)) = (bs ++ List.replicate 9 0).map bcell := by
  rw [Nat.min_eq_right (by omega), Nat.mul_one, List.take_of_length_le (by simp), List.drop_replicate, show bs.length + 9 - bs.length = 9 from by omega, List.map_append, List.map_replicate]
  rfl
theorem full_lo {bs : List UInt8} {i : Nat} {x y : UInt8} (h : (bs ++ List.replicate 9 0)[i]? = some x) (h2 : bs[i]? = some y) : x = y := by
  have := (List.getElem?_eq_some_iff.1 h2).1
  rw [List.getElem?_append_left this, h2] at h; exact (Option.some.inj h).symm
theorem full_hi {bs : List UInt8} {i : Nat} {x : UInt8} (h : (bs ++ List.replicate 9 0)[i]? = some x) (h2 : bs.length ≤ i) : x = 0 := by
  rw [List.getElem?_append_right h2, List.getElem?_replicate] at h
  split at h
  · exact (Option.some.inj h).symm
  · cases h
theorem full_rd {w : World} {A : Option Addr} {c : Nat} {bs zs : List UInt8} (h : Rd w 1 (.slice A (bs ++ zs).length c) (bs ++ zs).length ((bs ++ zs).map bcell)) : Rd w 1 (.slice (cutA A c 1 0) bs.length c) bs.length (bs.map bcell) := by
  have h' := h.cut_h bs.length (by simp)
  rwa [Nat.mul_one, List.map_append, List.take_append_of_le_length (by simp), List.take_of_length_le (by simp)] at h'
theorem from_len (bs : List UInt8) : ∀ (l : List AskD) (i : Nat), (fromA bs i l).1.length ≤ l.length
  | [], _ => Nat.le_refl _
  | a :: l, i => by
    unfold fromA
    split
    · simp
    · have := from_len bs l (oneA bs i a).2.1
      simp [app]; omega
theorem rdAll_len {bs : List UInt8} {l : List AskD} : (rdAll bs l).1.length ≤ l.length := from_len bs l 0
end Go.Proofs.Ytmnekmclpepclaa.Wk
