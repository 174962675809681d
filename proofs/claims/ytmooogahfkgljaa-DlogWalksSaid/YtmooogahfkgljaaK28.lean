/- Words of our own for walks: an append to a shorter view of a row whose further cells are known. Plain theorems about the model; no condition. -/
import Derived.Test.YtmooogahfkgljaaK27
set_option linter.unusedVariables false
set_option linter.unusedSimpArgs false
namespace Go.Proofs.Ytmooogahfkgljaa.K
open Go Go.RowKit
section
variable {P : Program} {W w : World} {L : List As} {t tx ty e : TypeId} {n k m j c : Nat} {u v : Value} {cs ds ns : List Value} {A : Option Addr}
theorem run_append_at {z : Value} {by_ : Nat} (ht : P.underlying t = some (.slice e)) (hi : elemK P e = some (some z, 1, by_)) (hzs : z.cells.size = 1)
    (s : Sat W w (row e 1 (.slice A j c) j (cs ++ ds) :: L)) (hcs : cs.length = n) (hnj : n ≤ j) (hs : Src P 1 tx u k ns w) (hn : (n + k) * by_ ≤ 140737488355328) (hn2 : n + k ≤ 140737488355328) :
    ∃ A' c' w', (Builtin.append_ #[t, tx] ty #[.slice A n c, u]).run P w = .ok (.slice A' (n + k) c') w' ∧ n + k ≤ c' ∧
      ((A' = A ∧ c' = c ∧ Sat W w' (row e 1 (.slice A (max j (n + k)) c) (max j (n + k)) (cs ++ ns ++ ds.drop ns.length) :: L)) ∨ Sat W w' (row e 1 (.slice A' (n + k) c') (n + k) (cs ++ ns) :: row e 1 (.slice A j c) j (cs ++ ds) :: L)) := by
  obtain ⟨i, hi', hq⟩ := Option.map_eq_some_iff.1 hi
  simp only [Prod.mk.injEq] at hq
  obtain ⟨hz, hsz, hb⟩ := hq
  subst hb
  obtain ⟨bl, h, ⟨h1, h2, a, s1, s2, q, r⟩, t'⟩ := id s
  have hnl := hs.newsLen
  rw [← hsz] at hs
  rw [Nat.mul_one] at hnl
  rcases q with ⟨hv, hj0, hcd⟩ | ⟨b, cap, sp, fr, hv, hnc, hcap, hl, hl2, hfr, hb⟩
  · have S0 : Sat W w L := s.drop
    injection hv with e1 _ e3
    subst e1 e3 hj0
    obtain ⟨rfl, rfl⟩ := List.append_eq_nil_iff.1 hcd
    obtain rfl : n = 0 := by omega
    by_cases hk : k = 0
    · subst hk
      obtain rfl : ns = [] := List.eq_nil_of_length_eq_zero (by simpa using hnl)
      exact ⟨none, 0, w, run_append_nothing w t tx ty e i ht hi' none 0 0 (Nat.le_refl _) u hs, Nat.le_refl _, .inl ⟨rfl, rfl, by simpa using S0.row_nil e 1⟩⟩
    · have hc := grownCap_le w (0 + k) 0 e (by omega)
      refine ⟨_, _, _, run_append_grow_src w t tx ty e i z ht hi' hz none 0 0 [] (run_firstCells_none _ _ _ _ _) u k ns hs (by omega) (by omega) (growslice_fits (by omega) hn), hc.1, .inr ?_⟩
      refine (s.drew.alloc _).imp fun h hh => .inr ⟨w.heap.size, grownCap w (0 + k) 0 e, (Builtin.zeroCells z.cells (grownCap w (0 + k) 0 e - (0 + k))).toList, (0, 0), rfl, hc.1, hc.2, by simp [hnl], ?_, unfro.zero _, ?_⟩
      · generalize grownCap w (0 + k) 0 e = q at hc
        simp only [List.nil_append, List.length_append, Array.length_toList, zeroCells_size, hzs, hnl]
        omega
      · rw [show h w.heap.size = _ from hh]
        congr 2
        apply Array.ext'
        simp
  · injection hv with e1 _ e3
    subst e1 e3
    rw [Nat.mul_one, List.length_append] at hl
    rw [Nat.mul_one] at hl2 hfr
    have S : Sat W w (pto b (.cells (cs ++ (ds ++ sp)).toArray e fr) :: L) := ⟨bl, h, ⟨h1, h2, a, s1, s2, by rw [← List.append_assoc]; exact hb, r⟩, t'⟩
    have hcell : ∀ j u, (cs ++ (ds ++ sp))[j]? = some u → w.cell? ⟨b, j, none⟩ = some u := fun j u e => S.cell0 (by simpa using e)
    have hl3 : (cs ++ (ds ++ sp)).length = c := by rw [← List.append_assoc]; exact hl2
    simp only [List.length_append] at hl3
    by_cases hroom : n + k ≤ c
    · have hle : ns.length ≤ (ds ++ sp).length := by rw [List.length_append]; omega
      refine ⟨_, _, _, run_append_room_src w t tx ty e i ht hi' b 0 n c u k ns hs hroom (fun j hj => ?_) (fun j hj => S.freeAt hfr (by rw [hsz]; omega)), hroom, .inl ⟨rfl, rfl, ?_⟩⟩
      · have : 0 + n * i.size + j < (cs ++ (ds ++ sp)).length := by rw [hsz]; simp only [List.length_append]; omega
        rw [hcell _ _ (List.getElem?_eq_getElem this)]; rfl
      · have S2 := Sat.setCells ns (w := w) (b := b) (t := e) (0 + n * i.size) cs (ds ++ sp) (by rw [hsz]; omega) hle S
        refine S2.imp fun h hh => .inr ⟨b, c, sp.drop (ns.length - ds.length), fr, rfl, by omega, hcap, ?_, ?_, by rw [Nat.mul_one]; exact hfr, ?_⟩
        · simp only [List.length_append, List.length_drop]; omega
        · simp only [List.length_append, List.length_drop]; omega
        · rw [show h b = _ from hh, List.drop_append]; simp only [List.append_assoc]
    · have hc := grownCap_le w (n + k) c e (by omega)
      refine ⟨_, _, _, run_append_grow_src w t tx ty e i z ht hi' hz (some ⟨b, 0, none⟩) n c cs ?_ u k ns hs (by omega) (by omega) (growslice_fits (by omega) hn), hc.1, .inr ?_⟩
      · refine run_firstCells_some w.drew i.size n ⟨b, 0, none⟩ n c cs (by rw [hsz]; omega) fun j u e => ?_
        rw [add_lit, Nat.zero_add]
        exact hcell j u (by rw [List.getElem?_append_left (List.getElem?_eq_some_iff.1 e).1]; exact e)
      · refine (s.drew.alloc _).imp fun h hh => .inr ⟨w.heap.size, grownCap w (n + k) c e, (Builtin.zeroCells z.cells (grownCap w (n + k) c e - (n + k))).toList, (0, 0), rfl, hc.1, hc.2, by simp only [List.length_append]; omega, ?_, unfro.zero _, ?_⟩
        · simp only [List.length_append, Array.length_toList, zeroCells_size, hzs]; omega
        · rw [show h w.heap.size = _ from hh]
          congr 2
          apply Array.ext'
          simp
theorem Sat.pure {X : As} {p : Prop} (s : Sat W w ((fun h => p ∧ X h) :: L)) : p ∧ Sat W w (X :: L) := by
  obtain ⟨bl, h, ⟨h1, h2, a, s1, s2, ⟨hp, y⟩, r⟩, t'⟩ := s
  exact ⟨hp, bl, h, ⟨h1, h2, a, s1, s2, y, r⟩, t'⟩
end
end Go.Proofs.Ytmooogahfkgljaa.K
