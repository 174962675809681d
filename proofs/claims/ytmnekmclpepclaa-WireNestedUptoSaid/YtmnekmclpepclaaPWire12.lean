/- A reading within a reading: plain mathematics. No condition. -/
import Derived.Test.YtmnekmclpepclaaPWire9
set_option linter.unusedVariables false
set_option linter.unusedSimpArgs false
namespace Go.Proofs.Ytmnekmclpepclaa.Wk
open Go Go.RowKit Go.Proofs.Ytmnekmclpepclaa Go.Proofs.Ytmnekmclpepclaa.K
/-! a reading within a reading -/
/-- How many asks stand ahead of the first that indexes an empty list. -/
def calmN (l : List AskD) : Nat := (l.takeWhile fun a => decide (a.k ≠ 8)).length
theorem calm_le (l : List AskD) : calmN l ≤ l.length := by
  unfold calmN; exact List.Sublist.length_le (List.takeWhile_sublist _)
theorem calm_hit : ∀ {l : List AskD} {i : Nat} {x : AskD}, i ≤ calmN l → l[i]? = some x → x.k = 8 → calmN l = i
  | [], i, x, _, h, _ => by simp at h
  | a :: l, 0, x, _, h, h8 => by
    simp at h; subst h
    simp [calmN, List.takeWhile_cons, h8]
  | a :: l, i + 1, x, hi, h, h8 => by
    have h' : l[i]? = some x := by simpa using h
    by_cases ha : a.k = 8
    · simp [calmN, List.takeWhile_cons, ha] at hi
    · have e : calmN (a :: l) = calmN l + 1 := by simp [calmN, List.takeWhile_cons, ha]
      rw [e] at hi ⊢
      rw [calm_hit (by omega) h' h8]
theorem calm_pass : ∀ {l : List AskD} {i : Nat} {x : AskD}, i ≤ calmN l → l[i]? = some x → x.k ≠ 8 → i + 1 ≤ calmN l
  | [], i, x, _, h, _ => by simp at h
  | a :: l, 0, x, _, h, h8 => by
    simp at h; subst h
    simp [calmN, List.takeWhile_cons, h8]
  | a :: l, i + 1, x, hi, h, h8 => by
    have h' : l[i]? = some x := by simpa using h
    by_cases ha : a.k = 8
    · simp [calmN, List.takeWhile_cons, ha] at hi
    · have e : calmN (a :: l) = calmN l + 1 := by simp [calmN, List.takeWhile_cons, ha]
      rw [e] at hi ⊢
      have := calm_pass (l := l) (i := i) (by omega) h' h8
      omega
theorem calm_at {l : List AskD} {i : Nat} {x : AskD} (h : l[i]? = some x) (hi : i + 1 ≤ calmN l) : (l.take (calmN l))[i]? = some x := by
  rw [List.getElem?_take, if_pos (by omega)]; exact h
/-- The inner reading: its reader's answers, the outer one's further answers, the outer one's place, the inner error, the outer one's error. -/
def nestIn (bs cs : List UInt8) (at0 : Nat) (inner last : List AskD) : List GotD × List GotD × Nat × Int × Int :=
  if (fromA cs 0 inner).2.2 ≠ 0 then ((fromA cs 0 inner).1, [], at0, (fromA cs 0 inner).2.2, 0)
  else if (fromA bs at0 (last.take (calmN last))).2.2 ≠ 0 then ((fromA cs 0 inner).1, (fromA bs at0 (last.take (calmN last))).1, 0, 0, (fromA bs at0 (last.take (calmN last))).2.2)
  else ((fromA cs 0 inner).1, (fromA bs at0 (last.take (calmN last))).1, (fromA bs at0 (last.take (calmN last))).2.1, (if calmN last < last.length then 8 else if (fromA cs 0 inner).2.1 < cs.length then 52 else 0), 0)
section
variable {bs cs : List UInt8} {at0 ci nx : Nat} {inner last : List AskD} {gi more : List GotD} {g h : Int}
theorem nestIn_err (hF : fromA cs 0 inner = (gi, ci, g)) (h0 : g ≠ 0) : nestIn bs cs at0 inner last = (gi, [], at0, g, 0) := by unfold nestIn; rw [hF]; simp [h0]
theorem nestIn_out (hF : fromA cs 0 inner = (gi, ci, 0)) (hG : fromA bs at0 (last.take (calmN last)) = (more, nx, h)) (h0 : h ≠ 0) : nestIn bs cs at0 inner last = (gi, more, 0, 0, h) := by unfold nestIn; rw [hF, hG]; simp [h0]
theorem nestIn_ok (hF : fromA cs 0 inner = (gi, ci, 0)) (hG : fromA bs at0 (last.take (calmN last)) = (more, nx, 0)) : nestIn bs cs at0 inner last = (gi, more, nx, (if calmN last < last.length then 8 else if ci < cs.length then 52 else 0), 0) := by unfold nestIn; rw [hF, hG]; simp
end
/-- The whole: the outer answers, the inner ones, the inner error, whether the inner Read came back, the outer error. -/
def nestO (bs cs : List UInt8) (first inner last : List AskD) : List GotD × List GotD × Int × Bool × Int :=
  if (fromA bs 0 first).2.2 ≠ 0 then ((fromA bs 0 first).1, [], 0, false, (fromA bs 0 first).2.2)
  else if (nestIn bs cs (fromA bs 0 first).2.1 inner last).2.2.2.2 ≠ 0 then ((fromA bs 0 first).1 ++ (nestIn bs cs (fromA bs 0 first).2.1 inner last).2.1, (nestIn bs cs (fromA bs 0 first).2.1 inner last).1, 0, false, (nestIn bs cs (fromA bs 0 first).2.1 inner last).2.2.2.2)
  else ((fromA bs 0 first).1 ++ (nestIn bs cs (fromA bs 0 first).2.1 inner last).2.1, (nestIn bs cs (fromA bs 0 first).2.1 inner last).1, (nestIn bs cs (fromA bs 0 first).2.1 inner last).2.2.2.1, true, if (nestIn bs cs (fromA bs 0 first).2.1 inner last).2.2.1 < bs.length then 52 else 0)
section
variable {bs cs : List UInt8} {at0 nx : Nat} {first inner last : List AskD} {want gi more : List GotD} {f g h : Int}
theorem nestO_err (hF : fromA bs 0 first = (want, at0, f)) (h0 : f ≠ 0) : nestO bs cs first inner last = (want, [], 0, false, f) := by unfold nestO; rw [hF]; simp [h0]
theorem nestO_out (hF : fromA bs 0 first = (want, at0, 0)) (hG : nestIn bs cs at0 inner last = (gi, more, nx, g, h)) (h0 : h ≠ 0) : nestO bs cs first inner last = (want ++ more, gi, 0, false, h) := by unfold nestO; rw [hF]; simp [hG, h0]
theorem nestO_ok (hF : fromA bs 0 first = (want, at0, 0)) (hG : nestIn bs cs at0 inner last = (gi, more, nx, g, 0)) : nestO bs cs first inner last = (want ++ more, gi, g, true, if nx < bs.length then 52 else 0) := by unfold nestO; rw [hF]; simp [hG]
end
theorem nestIn_len {bs cs : List UInt8} {at0 : Nat} {inner last : List AskD} : (nestIn bs cs at0 inner last).1.length ≤ inner.length ∧ (nestIn bs cs at0 inner last).2.1.length ≤ last.length := by
  have h1 := from_len cs inner 0
  have h2 := from_len bs (last.take (calmN last)) at0
  have h3 : (last.take (calmN last)).length ≤ last.length := by simp; omega
  unfold nestIn
  split
  · exact ⟨h1, by simp⟩
  · split <;> exact ⟨h1, by show (fromA bs at0 (last.take (calmN last))).1.length ≤ _; omega⟩
end Go.Proofs.Ytmnekmclpepclaa.Wk
