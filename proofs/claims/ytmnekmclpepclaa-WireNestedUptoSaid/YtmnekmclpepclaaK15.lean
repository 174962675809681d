/- Words of our own for walks: structs held against one another. Plain theorems about the model; no condition. -/
import Derived.Test.YtmnekmclpepclaaK14
import Derived.Laws.StructEq
set_option linter.unusedVariables false
set_option linter.unusedSimpArgs false
namespace Go.Proofs.Ytmnekmclpepclaa.K
open Go Go.RowKit

/-- A part of a struct. -/
def partv (P : Program) (t : TypeId) (cs : List Value) (off : Nat) : Option Value :=
  match aggr P t, flat P t with
  | true, _ => (P.info? t).map fun i => .agg ((cs.drop off).take i.size).toArray
  | _, true => nth cs off
  | _, _ => none
def eqfs (P : Program) (ev : TypeId → Value → Value → Option Bool) : List Field → List Value → List Value → Option Bool
  | [], _, _ => some true
  | [f], xs, ys => match decide (f.name = "_"), partv P f.type xs f.offset, partv P f.type ys f.offset with
    | false, some a, some b => ev f.type a b
    | _, _, _ => none
  | f :: g :: l, xs, ys => match decide (f.name = "_"), partv P f.type xs f.offset, partv P f.type ys f.offset with
    | false, some a, some b => match ev f.type a b, eqfs P ev (g :: l) xs ys with
      | some r, some q => some (r && q)
      | _, _ => none
    | _, _, _ => none
def eqv (P : Program) : Nat → TypeId → Value → Value → Option Bool
  | 0, _, _, _ => none
  | d + 1, t, x, y => match P.underlying t, x, y with
    | some .bool, .bool a, .bool b => some (a == b)
    | some (.int _), .int k a, .int k' b => if k = k' then some (a == b) else none
    | some .string, .string a, .string b => some (a == b)
    | some (.struct fs), .agg xs, .agg ys => match P.stoodInHeld t with
      | true => none
      | false => eqfs P (eqv P d) fs.toList xs.toList ys.toList
    | _, _, _ => none
theorem ba_beq (a b : ByteArray) : (a == b) = true ↔ a = b := by
  cases a with | mk x =>
  cases b with | mk y =>
  have h : ((⟨x⟩ : ByteArray) == ⟨y⟩) = (x == y) := rfl
  rw [h, beq_iff_eq]
  exact ⟨fun h => by rw [h], fun h => by injection h⟩
section
variable {P : Program} {w : World}
theorem run_part {t off : Nat} {cs : Array Value} {v : Value} (h : partv P t cs.toList off = some v) : (part t cs off).run P w = .ok v w := by
  unfold partv at h
  cases ha : aggr P t with
  | true =>
    rw [ha] at h
    obtain ⟨i, hi, rfl⟩ := Option.map_eq_some_iff.1 h
    have h1 := run_isAgg_aggr ha w
    have he : cs.extract off (off + i.size) = ((cs.toList.drop off).take i.size).toArray := by
      apply Array.ext'
      simp [List.drop_take]
    simp [part, h1, sizeOf, typeInfo, hi, go_sem, he]
  | false =>
    rw [ha] at h
    cases hf : flat P t with
    | false => rw [hf] at h; cases h
    | true =>
      rw [hf] at h
      have h1 := run_isAgg_flat hf w
      have h : nth cs.toList off = some v := h
      rw [nth_eq] at h
      simp at h
      simp [part, h1, h, go_sem]
theorem run_eqv : ∀ (d : Nat) (t : TypeId) (x y : Value) (r : Bool), eqv P d t x y = some r → ∀ D, d ≤ D → (Op.equalIn D t x y).run P w = .ok r w := by
  intro d
  induction d with
  | zero => intro t x y r h; simp [eqv] at h
  | succ d ih =>
    have hfs : ∀ (D : Nat), d ≤ D → ∀ (fs : List Field) (xs ys : Array Value) (r : Bool), eqfs P (eqv P d) fs xs.toList ys.toList = some r → (Op.eqFields D xs ys fs).run P w = .ok r w := by
      intro D hD fs
      induction fs with
      | nil => intro xs ys r h; simp [eqfs] at h; subst h; simp [Op.eqFields]
      | cons f l ihl =>
        intro xs ys r h
        have key : ∀ a b q, decide (f.name = "_") = false → partv P f.type xs.toList f.offset = some a → partv P f.type ys.toList f.offset = some b → eqv P d f.type a b = some q → ∀ s, (Op.eqFields D xs ys l).run P w = .ok s w → (Op.eqFields D xs ys (f :: l)).run P w = .ok (q && s) w := by
          intro a b q hn ha hb he s hs
          have hn' : f.name ≠ "_" := by simpa using hn
          rw [Op.eqFields]
          simp only [if_pos hn', Sem.run_bind, run_part (w := w) ha, run_part (w := w) hb, ih _ _ _ _ he D hD, Result.andThen_ok]
          cases q
          · simp
          · simpa using hs
        cases l with
        | nil =>
          unfold eqfs at h
          split at h
          · rename_i a b hn ha hb
            have := key a b r hn ha hb h true (by simp [Op.eqFields])
            rwa [Bool.and_true] at this
          · cases h
        | cons g l =>
          unfold eqfs at h
          split at h
          · rename_i a b hn ha hb
            split at h
            · rename_i q s he hs
              simp at h; subst h
              exact key a b q hn ha hb he s (ihl xs ys s hs)
            · cases h
          · cases h
    intro t x y r h D hD
    obtain ⟨D, rfl⟩ : ∃ k, D = k + 1 := ⟨D - 1, by omega⟩
    unfold eqv at h
    split at h
    · rename_i hu; simp at h; subst h; unfold Op.equalIn; simp [run_underlying hu, go_sem]
    · rename_i hu
      split at h
      · rename_i hk; simp at h; subst h hk; unfold Op.equalIn; simp [run_underlying hu, go_sem]
      · cases h
    · rename_i hu; simp at h; subst h; unfold Op.equalIn; simp [run_underlying hu, go_sem]
    · rename_i fs xs ys hu
      split at h
      · cases h
      · rename_i hst
        have hf : P.fieldsOf t = fs := by simp [Program.fieldsOf, hu]
        rw [run_equalIn_struct (P := P) w D t xs ys (by rw [hf]; exact hu) hst, hf]
        exact hfs D (by omega) _ _ _ _ h
    · cases h
variable {ρ : Operand → Value} {d : Option Tmp} {ty : TypeId} {ps : String} {af : Array Edge} {g : Option (Nat × Bool)} {t yt : TypeId} {x y : Operand} {a b : List Value} {c : Prop} [Decidable c]
theorem r_eqagg (hx : ρ x = .agg a.toArray) (hy : ρ y = .agg b.toArray) (hg : P.eqGuardType P.depth t = false) (h : eqv P 20 t (.agg a.toArray) (.agg b.toArray) = some (decide c)) : (execOp ρ ⟨d, .binOp .eql t x y yt, ty, ps, af, g⟩).run P w = .ok (.value (.bool (decide c))) w := by
  have := run_eqv (w := w) 20 t _ _ _ h Op.maxDepth (by decide)
  simp [execOp, hx, hy, eqGuard, binOp, Op.equal, this, hg, go_sem]
theorem r_neagg (hx : ρ x = .agg a.toArray) (hy : ρ y = .agg b.toArray) (hg : P.eqGuardType P.depth t = false) (h : eqv P 20 t (.agg a.toArray) (.agg b.toArray) = some (decide c)) : (execOp ρ ⟨d, .binOp .neq t x y yt, ty, ps, af, g⟩).run P w = .ok (.value (.bool (decide (¬ c)))) w := by
  have := run_eqv (w := w) 20 t _ _ _ h Op.maxDepth (by decide)
  simp [execOp, hx, hy, eqGuard, binOp, Op.equal, this, hg, go_sem]
end
end Go.Proofs.Ytmnekmclpepclaa.K
