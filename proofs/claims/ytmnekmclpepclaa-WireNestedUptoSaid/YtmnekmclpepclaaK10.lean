/- Words of our own for rows: how the arguments of a law, read as data, become the cells that walks speak of. Plain theorems about the model; no condition. -/
import Derived.Test.YtmnekmclpepclaaK9
import Derived.SizedLaws
import Derived.ChangeSlices
import Derived.WideShapes
set_option linter.unusedVariables false
set_option linter.unusedSimpArgs false
namespace Go.Proofs.Ytmnekmclpepclaa.K
open Go Go.RowKit

/-- A measure of readings that counts every value and every letter. -/
structure Bulky {H : Type} (B : DataW H → Nat) : Prop where
  lit : ∀ l, 1 ≤ B (.lit l)
  str : ∀ b, B (.lit (.string b)) = b.length + 1
  nil : 1 ≤ B .nil
  slice : ∀ es sp, B (.slice es sp) = (es.map B).sum + (sp.map B).sum + 1
  agg : ∀ ps, B (.agg ps) = (ps.map B).sum + 1
abbrev tr {H : Type} (enc : TypeId × Value → H) (P : Program) (W : World) (fuel : Nat) (t : TypeId) (cs : List Value) := DataW.trod enc P W 0 (fun _ => true) true fuel t cs
/-- What a reading at type t tells of the cells: 'rel'; of weights: 'wb'; of bulk: 'bk'. -/
structure Opn (P : Program) (W : World) (t sz : Nat) {α : Type} (rel : List Value → α → Prop) (wb : α → Prop) (bk : α → Nat) : Prop where
  size : P.cellsOf t = sz
  open_ : ∀ {H : Type} (enc : TypeId × Value → H) (B : DataW H → Nat), Bulky B → ∀ fuel cs d p, tr enc P W fuel t cs = some (d, p) → ∃ a, rel cs a ∧ ((d.weights P t).all (· ≤ reachBytes) = true → wb a) ∧ bk a ≤ B d
section
variable {P : Program} {W : World}
theorem Opn.int {t : Nat} {k : IntKind} (ht : P.underlying t = some (.int k)) (hc : P.cellsOf t = 1) : Opn P W t 1 (fun cs (a : Int) => cs = [.int k a] ∧ (Lit.int k a).wf = true) (fun _ => True) (fun _ => 1) := by
  refine ⟨hc, fun enc B hB fuel cs d p h => ?_⟩
  cases fuel with
  | zero => simp [tr, DataW.trod] at h
  | succ fuel =>
    simp only [tr, DataW.trod, ht] at h
    split at h <;> try simp_all
    obtain ⟨⟨rfl, hw⟩, rfl, rfl⟩ := h
    exact hB.lit _
theorem Opn.bool {t : Nat} (ht : P.underlying t = some .bool) (hc : P.cellsOf t = 1) : Opn P W t 1 (fun cs (a : Bool) => cs = [.bool a]) (fun _ => True) (fun _ => 1) := by
  refine ⟨hc, fun enc B hB fuel cs d p h => ?_⟩
  cases fuel with
  | zero => simp [tr, DataW.trod] at h
  | succ fuel =>
    simp only [tr, DataW.trod, ht] at h
    split at h <;> try simp_all
    obtain ⟨rfl, rfl⟩ := h
    exact hB.lit _
theorem Opn.str {t : Nat} (ht : P.underlying t = some .string) (hc : P.cellsOf t = 1) : Opn P W t 1 (fun cs (a : ByteArray) => cs = [.string a] ∧ a.size ≤ maxLen) (fun a => a.size ≤ reachBytes) (fun a => a.size + 1) := by
  refine ⟨hc, fun enc B hB fuel cs d p h => ?_⟩
  cases fuel with
  | zero => simp [tr, DataW.trod] at h
  | succ fuel =>
    simp only [tr, DataW.trod, ht] at h
    split at h <;> try simp_all
    rename_i s
    obtain ⟨hw, rfl, rfl⟩ := h
    refine ⟨s, ⟨rfl, hw⟩, fun h => ?_, ?_⟩
    · simp [DataW.weights] at h
      exact h
    · rw [hB.str]
      simp
theorem mapM_some {α β : Type} {f : α → Option β} : ∀ {l : List α} {ys : List β}, l.mapM f = some ys → ys.length = l.length ∧ ∀ (i : Nat) (x : α), l[i]? = some x → ∃ y, ys[i]? = some y ∧ f x = some y
  | [], ys, h => by simp at h; subst h; simp
  | x :: l, ys, h => by
    rw [List.mapM_cons] at h
    cases hx : f x with
    | none => rw [hx] at h; cases h
    | some y =>
      cases hl : l.mapM f with
      | none => rw [hx, hl] at h; cases h
      | some zs =>
        rw [hx, hl] at h
        have : ys = y :: zs := by simpa using h.symm
        subst this
        obtain ⟨h1, h2⟩ := mapM_some hl
        refine ⟨by simp [h1], fun i u e => ?_⟩
        cases i with
        | zero => simp at e; subst e; exact ⟨y, rfl, hx⟩
        | succ i => simpa using h2 i u (by simpa using e)
/-- What a struct's reading is made of. -/
theorem open_struct {H : Type} {enc : TypeId × Value → H} {t : Nat} {fs : Array Field} (ht : P.underlying t = some (.struct fs)) {fuel : Nat} {cs : List Value} {d : DataW H} {p : List MemPlace} (h : tr enc P W fuel t cs = some (d, p)) :
    cs.length = P.cellsOf t ∧ ∃ ds fuel', d = .agg ds ∧ ds.length = fs.size ∧ ∀ (i : Nat) (f : Field), fs[i]? = some f → ∃ di pi, ds[i]? = some di ∧ tr enc P W fuel' f.type ((cs.drop f.offset).take (P.cellsOf f.type)) = some (di, pi) := by
  cases fuel with
  | zero => simp [tr, DataW.trod] at h
  | succ fuel =>
    simp only [tr, DataW.trod, ht] at h
    by_cases hl : cs.length = P.cellsOf t
    · rw [if_pos hl] at h
      cases hm : fs.toList.mapM (fun f => DataW.trod enc P W 0 (fun _ => true) true fuel f.type ((cs.drop f.offset).take (P.cellsOf f.type))) with
      | none => rw [hm] at h; cases h
      | some xs =>
        rw [hm] at h
        simp only [Option.map_some, Option.some.injEq, Prod.mk.injEq] at h
        obtain ⟨rfl, rfl⟩ := h
        obtain ⟨h1, h2⟩ := mapM_some hm
        refine ⟨hl, xs.map (·.1), fuel, rfl, by simpa using h1, fun i f hf => ?_⟩
        obtain ⟨y, hy, hh⟩ := h2 i f (by simpa using hf)
        exact ⟨y.1, y.2, by simp [hy], hh⟩
    · rw [if_neg hl] at h; cases h
/-- Of the fields that are listed (type, place): one behind the other. -/
def OpnF (P : Program) (W : World) (fl : List (Nat × Nat)) {α : Type} (rel : List Value → α → Prop) (wb : α → Prop) (bk : α → Nat) : Prop :=
  ∀ {H : Type} (enc : TypeId × Value → H) (B : DataW H → Nat), Bulky B → ∀ fuel cs (ds : List (DataW H)), ds.length = fl.length → (∀ (i t off : Nat), fl[i]? = some (t, off) → ∃ di pi, ds[i]? = some di ∧ tr enc P W fuel t ((cs.drop off).take (P.cellsOf t)) = some (di, pi)) →
    ∃ a, rel cs a ∧ ((DataW.weightsEach P (fl.map (·.1)) ds).all (· ≤ reachBytes) = true → wb a) ∧ bk a ≤ (ds.map B).sum
theorem OpnF.nil : OpnF P W [] (fun _ (_ : Unit) => True) (fun _ => True) (fun _ => 0) := fun enc B hB fuel cs ds h _ => ⟨(), trivial, fun _ => trivial, by simp⟩
theorem OpnF.cons {t off sz : Nat} {fl : List (Nat × Nat)} {α β : Type} {rel : List Value → α → Prop} {wb : α → Prop} {bk : α → Nat} {rel' : List Value → β → Prop} {wb' : β → Prop} {bk' : β → Nat} (h : Opn P W t sz rel wb bk) (h' : OpnF P W fl rel' wb' bk') :
    OpnF P W ((t, off) :: fl) (fun cs (a : α × β) => rel ((cs.drop off).take sz) a.1 ∧ rel' cs a.2) (fun a => wb a.1 ∧ wb' a.2) (fun a => bk a.1 + bk' a.2) := fun enc B hB fuel cs ds hl hd => by
  cases ds with
  | nil => simp at hl
  | cons d ds =>
    obtain ⟨d0, p0, e0, h0⟩ := hd 0 t off rfl
    simp at e0
    subst e0
    obtain ⟨a, ha, hwa, hba⟩ := h.open_ enc B hB _ _ _ _ h0
    obtain ⟨b, hb, hwb, hbb⟩ := h' enc B hB fuel cs ds (by simpa using hl) fun i t' off' e => by
      obtain ⟨di, pi, h1, h2⟩ := hd (i + 1) t' off' (by simpa using e)
      exact ⟨di, pi, by simpa using h1, h2⟩
    refine ⟨(a, b), ⟨by rwa [h.size] at ha, hb⟩, fun hw => ?_, ?_⟩
    · simp only [List.map_cons, DataW.weightsEach, List.all_append, Bool.and_eq_true] at hw
      exact ⟨hwa hw.1, hwb hw.2⟩
    · simp; omega
/-- A struct's fields: their types and places. -/
def placesOf (P : Program) (t : Nat) : Option (List (Nat × Nat)) := match P.underlying t with | some (.struct fs) => some (fs.toList.map fun f => (f.type, f.offset)) | _ => none
theorem Opn.struct {t sz : Nat} {fl : List (Nat × Nat)} {α : Type} {rel : List Value → α → Prop} {wb : α → Prop} {bk : α → Nat} (ht : placesOf P t = some fl) (hs : P.cellsOf t = sz) (h : OpnF P W fl rel wb bk) :
    Opn P W t sz (fun cs a => cs.length = sz ∧ rel cs a) wb (fun a => bk a + 1) := by
  refine ⟨hs, fun enc B hB fuel cs d p hh => ?_⟩
  unfold placesOf at ht
  cases hu : P.underlying t with
  | none => rw [hu] at ht; cases ht
  | some u =>
    rw [hu] at ht
    cases u <;> try cases ht
    rename_i fs
    obtain ⟨hl, ds, fuel', rfl, hdl, hdi⟩ := open_struct hu hh
    obtain ⟨a, ha, hwa, hba⟩ := h enc B hB fuel' cs ds (by simpa using hdl) fun i t' off e => by
      simp only [List.getElem?_map] at e
      obtain ⟨f, hf, e⟩ := Option.map_eq_some_iff.1 e
      simp only [Prod.mk.injEq] at e
      obtain ⟨rfl, rfl⟩ := e
      exact hdi i f (by simpa using hf)
    refine ⟨a, ⟨by rw [hl, hs], ha⟩, fun hw => hwa ?_, ?_⟩
    · simp only [DataW.weights, hu] at hw
      have e : (fs.toList.map fun f => (f.type, f.offset)).map (·.1) = fs.toList.map (·.type) := by simp [Function.comp_def]
      rw [e]; exact hw
    · rw [hB.agg]; omega
/-- Cells that lie in a row. -/
theorem cellsAt_of {base : Nat} {a : Addr} {n : Nat} {cs : List Value} (h : W.cells? base a n = some cs) : cs.length = n ∧ ∀ (j : Nat) (u : Value), cs[j]? = some u → W.cell? (a.add j) = some u := by
  unfold World.cells? at h
  split at h
  · obtain ⟨h1, h2⟩ := mapM_some h
    simp at h1
    refine ⟨h1, fun j u e => ?_⟩
    have hj := (List.getElem?_eq_some_iff.1 e).1
    obtain ⟨y, hy, hc⟩ := h2 j j (List.getElem?_range (by omega))
    rw [e] at hy
    injection hy with hy
    rw [hc, hy]
  · cases h
theorem flatten_at {sz : Nat} : ∀ (css : List (List Value)), (∀ c ∈ css, c.length = sz) → css.flatten.length = css.length * sz ∧ ∀ j u, css.flatten[j]? = some u → ∃ i q c, css[i]? = some c ∧ c[q]? = some u ∧ j = i * sz + q
  | [], _ => by simp
  | c :: css, h => by
    obtain ⟨h1, h2⟩ := flatten_at css fun c hc => h c (List.mem_cons_of_mem _ hc)
    have hc := h c (by simp)
    refine ⟨by simp [h1, hc, Nat.add_mul, Nat.add_comm], fun j u e => ?_⟩
    simp only [List.flatten_cons] at e
    by_cases hj : j < c.length
    · rw [List.getElem?_append_left hj] at e
      exact ⟨0, j, c, rfl, e, by omega⟩
    · rw [List.getElem?_append_right (by omega)] at e
      obtain ⟨i, q, c', hi, hq, hh⟩ := h2 _ _ e
      exact ⟨i + 1, q, c', by simpa using hi, hq, by rw [Nat.add_mul]; omega⟩
theorem sum_le {α H : Type} {bk : α → Nat} {B : DataW H → Nat} : ∀ (as : List α) (ds : List (DataW H)), as.length = ds.length → (∀ (i : Nat) (a : α) (d : DataW H), as[i]? = some a → ds[i]? = some d → bk a ≤ B d) → (as.map bk).sum ≤ (ds.map B).sum
  | [], ds, _, _ => by simp
  | a :: as, ds, hl, h => by
    cases ds with
    | nil => simp at hl
    | cons d ds =>
      have h0 := h 0 a d rfl rfl
      have ih := sum_le as ds (by simpa using hl) fun i x y hx hy => h (i + 1) x y (by simpa using hx) (by simpa using hy)
      simp; omega
theorem weightsAll_mem {H : Type} {e : Nat} : ∀ (ds : List (DataW H)) (d : DataW H), d ∈ ds → ∀ x ∈ d.weights P e, x ∈ DataW.weightsAll P e ds
  | d :: ds, d', hd, x, hx => by
    simp only [DataW.weightsAll, List.mem_append]
    rcases List.mem_cons.1 hd with rfl | hd
    · exact .inl hx
    · exact .inr (weightsAll_mem ds d' hd x hx)
/-- A slice whose elements open. -/
theorem Opn.slice {t e sz by_ : Nat} {α : Type} {rel : List Value → α → Prop} {wb : α → Prop} {bk : α → Nat} (ht : P.underlying t = some (.slice e)) (hs : P.cellsOf t = 1) (hb : P.bytesOf e = by_) (h : Opn P W e sz rel wb bk) :
    Opn P W t 1 (fun cs (as : List α) => ∃ A c css, cs = [.slice A as.length c] ∧ c ≤ maxLen ∧ Rd W sz (.slice A as.length c) as.length (List.flatten css) ∧ css.length = as.length ∧ (∀ c ∈ css, c.length = sz) ∧ ∀ (i : Nat) (x : List Value) (a : α), css[i]? = some x → as[i]? = some a → rel x a)
      (fun as => as.length * by_ ≤ reachBytes ∧ ∀ a ∈ as, wb a) (fun as => (as.map bk).sum + 1) := by
  refine ⟨hs, fun enc B hB fuel cs d p hh => ?_⟩
  cases fuel with
  | zero => simp [tr, DataW.trod] at hh
  | succ fuel =>
    simp only [tr, DataW.trod, ht] at hh
    split at hh <;> first | (cases hh; done) | skip
    all_goals try (rename_i q; cases q; done)
    · rename_i heq
      cases heq
      cases hh
      refine ⟨[], ⟨none, 0, [], rfl, Nat.zero_le _, ⟨none, 0, rfl, Nat.le_refl _, by simp, .inl rfl⟩, rfl, by simp, by simp⟩, fun _ => ⟨by simp, by simp⟩, ?_⟩
      simpa using hB.nil
    · rename_i a len cap heq
      cases heq
      split at hh
      · rename_i hc
        obtain ⟨_, hlen, hcap⟩ := hc
        cases hm : (List.range len).mapM (fun i => (W.cells? 0 (a.add (i * P.cellsOf e)) (P.cellsOf e)).bind (DataW.trod enc P W 0 (fun _ => true) true fuel e)) with
        | none => rw [hm] at hh; cases hh
        | some elems =>
          rw [hm] at hh
          simp only [Option.bind_some, if_true] at hh
          obtain ⟨rest, hr, hh⟩ := Option.map_eq_some_iff.1 hh
          simp only [Prod.mk.injEq] at hh
          obtain ⟨rfl, _⟩ := hh
          obtain ⟨hl, hat⟩ := mapM_some hm
          simp at hl
          have key : ∀ i, i < len → ∃ (cs : List Value) (x : DataW _) (pl : List MemPlace) (y : α), W.cells? 0 (a.add (i * sz)) sz = some cs ∧ elems[i]? = some (x, pl) ∧ rel cs y ∧ ((x.weights P e).all (· ≤ reachBytes) = true → wb y) ∧ bk y ≤ B x := by
            intro i hi
            obtain ⟨y, hy, hb⟩ := hat i i (List.getElem?_range hi)
            rw [h.size] at hb
            obtain ⟨cs, hcs, hb⟩ := Option.bind_eq_some_iff.1 hb
            obtain ⟨y0, p0⟩ := y
            obtain ⟨z, h1, h2, h3⟩ := h.open_ enc B hB fuel cs y0 p0 hb
            exact ⟨cs, y0, p0, z, hcs, hy, h1, h2, h3⟩
          have pick : ∀ m, m ≤ len → ∃ (css : List (List Value)) (as : List α), css.length = m ∧ as.length = m ∧ ∀ i, i < m → ∃ (cs : List Value) (x : DataW _) (pl : List MemPlace) (y : α), css[i]? = some cs ∧ as[i]? = some y ∧ W.cells? 0 (a.add (i * sz)) sz = some cs ∧ elems[i]? = some (x, pl) ∧ rel cs y ∧ ((x.weights P e).all (· ≤ reachBytes) = true → wb y) ∧ bk y ≤ B x := by
            intro m
            induction m with
            | zero => exact fun _ => ⟨[], [], rfl, rfl, fun i hi => by omega⟩
            | succ m ih =>
              intro hm'
              obtain ⟨css, as, h1, h2, h3⟩ := ih (by omega)
              obtain ⟨cs, x, pl, y, k1, k2, k3, k4, k5⟩ := key m (by omega)
              refine ⟨css ++ [cs], as ++ [y], by simp [h1], by simp [h2], fun i hi => ?_⟩
              by_cases hi' : i < m
              · obtain ⟨cs', x', pl', y', q1, q2, q3⟩ := h3 i hi'
                exact ⟨cs', x', pl', y', by rw [List.getElem?_append_left (by omega)]; exact q1, by rw [List.getElem?_append_left (by omega)]; exact q2, q3⟩
              · obtain rfl : i = m := by omega
                exact ⟨cs, x, pl, y, by simp [← h1], by simp [← h2], k1, k2, k3, k4, k5⟩
          obtain ⟨css, as, h1, h2, h3⟩ := pick len (Nat.le_refl _)
          have hsz : ∀ c ∈ css, c.length = sz := fun c hc => by
            obtain ⟨i, hi⟩ := List.mem_iff_getElem?.1 hc
            have hil := (List.getElem?_eq_some_iff.1 hi).1
            obtain ⟨cs, x, pl, y, q1, q2, q3, _⟩ := h3 i (by omega)
            rw [hi] at q1
            injection q1 with q1
            subst q1
            exact (cellsAt_of q3).1
          obtain ⟨f1, f2⟩ := flatten_at css hsz
          subst h2
          refine ⟨as, ⟨some a, cap, css, rfl, hcap, ⟨some a, cap, rfl, hlen, by rw [f1, h1], .inr ⟨a, rfl, fun j u e => ?_⟩⟩, h1, hsz, fun i x y hx hy => ?_⟩, fun hw => ⟨?_, fun y hy => ?_⟩, ?_⟩
          · obtain ⟨i, q, c, hi, hq, rfl⟩ := f2 j u e
            have hil := (List.getElem?_eq_some_iff.1 hi).1
            obtain ⟨cs, x, pl, y, q1, q2, q3, _⟩ := h3 i (by omega)
            rw [hi] at q1
            injection q1 with q1
            subst q1
            have := (cellsAt_of q3).2 q u hq
            rwa [add_add] at this
          · have hil := (List.getElem?_eq_some_iff.1 hy).1
            obtain ⟨cs, x', pl, y', q1, q2, q3, q4, q5, _⟩ := h3 i hil
            rw [hx] at q1
            rw [hy] at q2
            injection q1 with q1
            injection q2 with q2
            subst q1 q2
            exact q5
          · simp only [DataW.weights, ht, List.all_cons, Bool.and_eq_true, decide_eq_true_eq] at hw
            rw [hb] at hw
            have := hw.1
            simp only [List.length_map, hl] at this
            exact Nat.le_trans (Nat.mul_le_mul_right _ (Nat.le_add_right _ _)) this
          · obtain ⟨i, hi⟩ := List.mem_iff_getElem?.1 hy
            have hil := (List.getElem?_eq_some_iff.1 hi).1
            obtain ⟨cs, x', pl, y', q1, q2, q3, q4, q5, q6, _⟩ := h3 i hil
            rw [hi] at q2
            injection q2 with q2
            subst q2
            refine q6 ?_
            simp only [DataW.weights, ht, List.all_cons, Bool.and_eq_true, List.all_append] at hw
            have hw := hw.2.1
            rw [List.all_eq_true] at hw ⊢
            exact fun z hz => hw z (weightsAll_mem _ x' (List.mem_map.2 ⟨_, List.mem_of_getElem? q4, rfl⟩) z hz)
          · rw [hB.slice]
            have := sum_le (bk := bk) (B := B) as (elems.map (·.1)) (by simp [hl]) fun i y x hy hx => by
              have hil := (List.getElem?_eq_some_iff.1 hy).1
              obtain ⟨cs, x', pl, y', q1, q2, q3, q4, q5, q6, q7⟩ := h3 i hil
              rw [hy] at q2
              injection q2 with q2
              subst q2
              rw [List.getElem?_map, q4] at hx
              injection hx with hx
              subst hx
              exact q7
            omega
      · cases hh
end
end Go.Proofs.Ytmnekmclpepclaa.K
