/- Words of our own for walks: slices turned into slices of their own type (a mark behind the array). Plain theorems about the model; no condition. -/
import Derived.Test.YtmnekmclpepclaaK20
set_option linter.unusedVariables false
set_option linter.unusedSimpArgs false
namespace Go.Proofs.Ytmnekmclpepclaa.K
open Go Go.RowKit
variable {ds : List Deferred}
section
variable {P : Program} {W w : World} {L : List As} {t e e' : TypeId}
theorem mark_row {n c : Nat} {A : Option Addr} {cs : List Value} (hn : 0 < n) (ht : P.underlying t = some (.slice e)) (he : P.underlying e = some (.int .u8)) (s : Sat W w (row e' 1 (.slice A n c) n cs :: L)) :
    ∃ w', (convert t t (.slice A n c)).run P w = .ok (.slice A n c) w' ∧ Sat W w' (row e' 1 (.slice A n c) n cs :: L) := by
  obtain ⟨bl, h, ⟨h1, h2, a, s1, s2, q, r⟩, t'⟩ := s
  rcases q with ⟨h0, rfl, rfl⟩ | ⟨b, cap, sp, fr, hv, hnc, hcap, hl, hl2, hfr, hb⟩
  · omega
  · injection hv with hA _ hc
    subst hA hc
    have S : Sat W w (pto b (.cells (cs ++ sp).toArray e' fr) :: L) := ⟨bl, h, ⟨h1, h2, a, s1, s2, hb, r⟩, t'⟩
    obtain ⟨hbk, hB⟩ := S.block
    have hsh : w.shape? b = some (e', (cs ++ sp).length) := by simp [World.shape?, hbk]
    have hrun : (convert t t (.slice (some ⟨b, 0, none⟩) n c)).run P w = .ok (.slice (some ⟨b, 0, none⟩) n c) (w.freeze ⟨b, (cs ++ sp).length, none⟩ 1) := by
      simp [convert, run_underlying ht, run_underlying he, markStringish, hsh]
    refine ⟨_, hrun, ?_⟩
    obtain ⟨lo, hi⟩ := fr
    have hw : (w.freeze ⟨b, (cs ++ sp).length, none⟩ 1).heap[b]? = some (.cells (cs ++ sp).toArray e' (if lo == hi then ((cs ++ sp).length, (cs ++ sp).length + 1) else (min lo (cs ++ sp).length, max hi ((cs ++ sp).length + 1)))) := by
      simp [World.freeze, Array.getElem?_modify, hbk]
    have ho : ∀ k, k ≠ b → (w.freeze ⟨b, (cs ++ sp).length, none⟩ 1).heap[k]? = w.heap[k]? := fun k hk => by
      simp [World.freeze, Array.getElem?_modify, Ne.symm hk]
    have hbel : Below W.heap.size w (w.freeze ⟨b, (cs ++ sp).length, none⟩ 1) := by
      refine ⟨rfl, rfl, rfl, by simp [World.freeze], fun k hk => ho k (by omega)⟩
    refine (S.write hbel hw ho).imp fun h hh => .inr ⟨b, c, sp, _, rfl, hnc, hcap, hl, hl2, ?_, hh⟩
    right
    by_cases hlh : lo = hi
    · subst hlh; simp; simp at hl2; omega
    · have hne : (lo == hi) = false := by simp [hlh]
      rw [hne]
      have : c * 1 ≤ lo := by
        rcases hfr with h0 | h0
        · injection h0 with h3 h4; omega
        · exact h0
      simp only [Bool.false_eq_true, if_false]
      simp at hl2 ⊢
      omega
end
section
variable {P : Program} {ops : Array Oper} {Q : Exit → Act → World → Prop} {a : Act} {n : Nat} {E : Env} {w w' W : World} {rest : List Oper} {d : Nat}
variable {ty t e e' : TypeId} {ps : String} {af : Array Edge} {x : Operand} {L : List As}
theorem goMark {m c : Nat} {A : Option Addr} {cs : List Value} (hA : Ag a n E ds) (hn : Nat.blt d n = true) (hx : evo E x = some (.slice A m c)) (ht : P.underlying t = some (.slice e)) (he : P.underlying e = some (.int .u8)) (hm : 0 < m) (S : Sat W w (row e' 1 (.slice A m c) m cs :: L))
    (k : ∀ w', Sat W w' (row e' 1 (.slice A m c) m cs :: L) → ∀ a', Ag a' n ((d, .slice A m c) :: E) ds → wpList P ops Q rest a' w') :
    wpList P ops Q (⟨some d, .convert t t x, ty, ps, af, none⟩ :: rest) a w := by
  obtain ⟨w', hr, S'⟩ := mark_row hm ht he S
  exact go1 hA rfl rfl hn (execConv (hA.ev hx) hr) (k w' S')
theorem eMark {i : Nat} {K : Act → World → Prop} {m c : Nat} {A : Option Addr} {cs : List Value} (hA : Ag a n E ds) (hi' : ops[i]? = some ⟨some d, .convert t t x, ty, ps, af, none⟩) (hn : Nat.blt d n = true) (hx : evo E x = some (.slice A m c)) (ht : P.underlying t = some (.slice e)) (he : P.underlying e = some (.int .u8)) (hm : 0 < m) (S : Sat W w (row e' 1 (.slice A m c) m cs :: L))
    (k : ∀ w', Sat W w' (row e' 1 (.slice A m c) m cs :: L) → ∀ a', Ag a' n ((d, .slice A m c) :: E) ds → K a' w') : wpOp P ops Q i K a w := by
  obtain ⟨w', hr, S'⟩ := mark_row hm ht he S
  exact e1 hA hi' rfl rfl hn (execConv (hA.ev hx) hr) (k w' S')
end
end Go.Proofs.Ytmnekmclpepclaa.K
