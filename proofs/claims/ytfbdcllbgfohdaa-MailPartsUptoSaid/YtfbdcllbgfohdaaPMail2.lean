/- Mails in memory, and what Check and Equal answer of them. Conditions: at most 2 to the 47 parts. -/
import Derived.Test.YtfbdcllbgfohdaaPMail
import Derived.Test.YtfbdcllbgfohdaaK26
set_option linter.unusedVariables false
set_option linter.unusedSimpArgs false
namespace Go.Proofs.Ytfbdcllbgfohdaa.Wk
open Go Go.RowKit Go.Proofs.Ytfbdcllbgfohdaa Go.Proofs.Ytfbdcllbgfohdaa.K
/-! mails in memory -/
structure PartW where
  cart : Int
  A : Option Addr
  c : Nat
  b : List UInt8
def encW (p : PartW) : List Value := [.int .i64 p.cart, .slice p.A p.b.length p.c]
def PartW.val (p : PartW) : PV := (p.cart, p.b)
def PartW.fr (p : PartW) : FrD := ⟨p.A, p.c, p.b⟩
theorem partW_at {ps : List PartW} {i : Nat} {p : PartW} (h : ps[i]? = some p) : ∀ j u, (encW p)[j]? = some u → (ps.flatMap encW)[i * 2 + j]? = some u := flat_at encW 2 (fun _ => rfl) ps _ p h
def ints (b : List UInt8) : List Int := b.map fun x => (x.toNat : Int)
def toD (p : PartW) : Wm.PartD := ⟨p.cart, p.A, p.c, ints p.b⟩
theorem ints_len (b : List UInt8) : (ints b).length = b.length := by simp [ints]
theorem ints_cells (b : List UInt8) : (ints b).map (Value.int .u8) = b.map bcell := by simp [ints, Function.comp_def, bcell]
theorem ints_inj {a b : List UInt8} : ints a = ints b ↔ a = b := by
  constructor
  · intro h
    induction a generalizing b with
    | nil => cases b with
      | nil => rfl
      | cons y b => simp [ints] at h
    | cons x a ih => cases b with
      | nil => simp [ints] at h
      | cons y b =>
        simp only [ints, List.map_cons, List.cons.injEq] at h
        have h1 : x = y := UInt8.toNat_inj.1 (by omega)
        rw [h1, ih h.2]
  · rintro rfl; rfl
theorem encD (p : PartW) : Wm.encP (toD p) = encW p := by simp [Wm.encP, toD, encW, ints_len]
theorem flatD (ps : List PartW) : (ps.map toD).flatMap Wm.encP = ps.flatMap encW := by rw [List.flatMap_map]; congr 1; funext p; exact encD p
theorem lenD (ps : List PartW) : (ps.map toD).length = ps.length := by simp
theorem formD {k f t lo hi : Int} {ps : List PartW} : Wm.Form k f t lo hi (ps.map toD) ↔ FormC k f t lo hi (ps.map PartW.cart) := by
  have hg : (∀ i, Wm.Good (ps.map toD) i) ↔ GoodC (ps.map PartW.cart) := by
    constructor
    · intro h i c hc
      rw [List.getElem?_map] at hc
      cases hp : ps[i]? with
      | none => rw [hp] at hc; cases hc
      | some p =>
        rw [hp] at hc
        obtain rfl : p.cart = c := Option.some.inj hc
        obtain ⟨h1, h2, h3⟩ := h i (toD p) (by rw [List.getElem?_map, hp]; rfl)
        refine ⟨h1, h2, fun d h0 hd => ?_⟩
        rw [List.getElem?_map] at hd
        cases hq : ps[i - 1]? with
        | none => rw [hq] at hd; cases hd
        | some q =>
          rw [hq] at hd
          obtain rfl : q.cart = d := Option.some.inj hd
          exact h3 (toD q) h0 (by rw [List.getElem?_map, hq]; rfl)
    · intro h i p hp
      rw [List.getElem?_map] at hp
      cases hq : ps[i]? with
      | none => rw [hq] at hp; cases hp
      | some q =>
        rw [hq] at hp
        obtain rfl : toD q = p := Option.some.inj hp
        obtain ⟨h1, h2, h3⟩ := h i q.cart (by rw [List.getElem?_map, hq]; rfl)
        refine ⟨h1, h2, fun r h0 hr => ?_⟩
        rw [List.getElem?_map] at hr
        cases hs : ps[i - 1]? with
        | none => rw [hs] at hr; cases hr
        | some s =>
          rw [hs] at hr
          obtain rfl : toD s = r := Option.some.inj hr
          exact h3 s.cart h0 (by rw [List.getElem?_map, hs]; rfl)
  unfold Wm.Form FormC
  rw [hg, lenD, List.length_map]
theorem formP {k f t lo hi : Int} {ps : List PartW} : FormV ⟨k, f, t, lo, hi, ps.map PartW.val⟩ ↔ FormC k f t lo hi (ps.map PartW.cart) := by
  unfold FormV; simp only [List.map_map]; rfl
def BodW (W : World) (ps : List PartW) : Prop := ∀ p ∈ ps, Rd W 1 (.slice p.A p.b.length p.c) p.b.length (p.b.map bcell) ∧ p.b.length ≤ 140737488355328
theorem BodW.sat {W w : World} {L : List As} {ps : List PartW} (h : BodW W ps) (s : Sat W w L) : BodW w ps := fun p hp => ⟨(h p hp).1.sat s, (h p hp).2⟩
theorem bodD {W : World} {ps : List PartW} (h : BodW W ps) : Wm.Bodies W (ps.map toD) := by
  intro q hq
  obtain ⟨p, hp, rfl⟩ := List.mem_map.1 hq
  obtain ⟨h1, h2⟩ := h p hp
  show Rd W 1 (.slice p.A (ints p.b).length p.c) (ints p.b).length ((ints p.b).map (Value.int .u8)) ∧ (ints p.b).length ≤ _
  rw [ints_len, ints_cells]; exact ⟨h1, h2⟩
theorem sameD {ps qs : List PartW} : Wm.Same (ps.map toD) (qs.map toD) ↔ ps.map PartW.val = qs.map PartW.val := by
  unfold Wm.Same
  simp only [List.map_map]
  have key : ∀ p q : PartW, Wm.key (toD p) = Wm.key (toD q) ↔ p.val = q.val := fun p q => by
    show (p.cart, ints p.b) = (q.cart, ints q.b) ↔ (p.cart, p.b) = (q.cart, q.b)
    rw [Prod.mk.injEq, Prod.mk.injEq, ints_inj]
  induction ps generalizing qs with
  | nil => cases qs with
    | nil => simp
    | cons q qs => simp
  | cons p ps ih => cases qs with
    | nil => simp
    | cons q qs =>
      simp only [List.map_cons, List.cons.injEq, Function.comp_apply]
      exact and_congr (key p q) ih
/-- What lies in chunks. -/
theorem BodW.of {W w : World} {L : List As} {ps : List PartW} (s : Sat W w (stars ((ps.map PartW.fr).map (FrD.row 5)) :: L)) (hl : ∀ p ∈ ps, p.b.length ≤ 140737488355328) : BodW w ps := fun p hp => by
  have h := frAll.of s p.fr (List.mem_map.2 ⟨p, hp, rfl⟩)
  exact ⟨h, hl p hp⟩
section
variable (W : World) (k f t lo hi : Int) (A : Option Addr) (c : Nat) (ps : List PartW)
theorem CheckW (hR : Rd W 2 (.slice A ps.length c) ps.length (ps.flatMap encW)) (hlen : ps.length ≤ 140737488355328) :
    Calls Try.prog 16 #[.agg #[.int .i64 k, .int .i64 f, .int .i64 t, .int .i64 lo, .int .i64 hi, .slice A ps.length c]] W fun e w' => ∃ er : Int, e = .returned (.int .i64 er) ∧ ((er = 0 ∧ FormC k f t lo hi (ps.map PartW.cart)) ∨ (er = 1 ∧ ¬ FormC k f t lo hi (ps.map PartW.cart))) ∧ Sat W w' [] := by
  have h := Wm.Check_calls W k f t lo hi A c (ps.map toD) (by rw [lenD, flatD]; exact hR) (by rw [lenD]; exact hlen)
  rw [lenD, formD] at h; exact h
theorem RefCheckW (hR : Rd W 2 (.slice A ps.length c) ps.length (ps.flatMap encW)) (hlen : ps.length ≤ 140737488355328) :
    Calls Try.prog 14 #[.agg #[.int .i64 k, .int .i64 f, .int .i64 t, .int .i64 lo, .int .i64 hi, .slice A ps.length c]] W fun e w' => ∃ er : Int, e = .returned (.int .i64 er) ∧ ((er = 0 ∧ FormC k f t lo hi (ps.map PartW.cart)) ∨ (er = 1 ∧ ¬ FormC k f t lo hi (ps.map PartW.cart))) ∧ Sat W w' [] := by
  have h := Wm.RefCheck_calls W k f t lo hi A c (ps.map toD) (by rw [lenD, flatD]; exact hR) (by rw [lenD]; exact hlen)
  rw [lenD, formD] at h; exact h
theorem EqualBytesW (xs : List UInt8) (A2 : Option Addr) (c2 : Nat) (ys : List UInt8) (hX : Rd W 1 (.slice A xs.length c) xs.length (xs.map bcell)) (hY : Rd W 1 (.slice A2 ys.length c2) ys.length (ys.map bcell)) (hx : xs.length ≤ 140737488355328) (hy : ys.length ≤ 140737488355328) :
    Calls Try.prog 23 #[.slice A xs.length c, .slice A2 ys.length c2] W fun e w' => e = .returned (.bool (decide (xs = ys))) ∧ Sat W w' [] := by
  have h := Wm.EqualBytes_calls W A c (ints xs) A2 c2 (ints ys) (by rw [ints_len, ints_cells]; exact hX) (by rw [ints_len, ints_cells]; exact hY) (by rw [ints_len]; exact hx) (by rw [ints_len]; exact hy)
  rw [ints_len, ints_len] at h
  have e : decide (ints xs = ints ys) = decide (xs = ys) := by rw [Bool.eq_iff_iff, decide_eq_true_eq, decide_eq_true_eq]; exact ints_inj
  rw [e] at h; exact h
theorem EqualW (k2 f2 t2 lo2 hi2 : Int) (A2 : Option Addr) (c2 : Nat) (qs : List PartW) (hR : Rd W 2 (.slice A ps.length c) ps.length (ps.flatMap encW)) (hlen : ps.length ≤ 140737488355328) (hR2 : Rd W 2 (.slice A2 qs.length c2) qs.length (qs.flatMap encW)) (hlen2 : qs.length ≤ 140737488355328) (hB : BodW W ps) (hB2 : BodW W qs) :
    Calls Try.prog 15 #[.agg #[.int .i64 k, .int .i64 f, .int .i64 t, .int .i64 lo, .int .i64 hi, .slice A ps.length c], .agg #[.int .i64 k2, .int .i64 f2, .int .i64 t2, .int .i64 lo2, .int .i64 hi2, .slice A2 qs.length c2]] W fun e w' => ∃ b, e = .returned (.bool b) ∧ (b = true ↔ MailV.mk k f t lo hi (ps.map PartW.val) = MailV.mk k2 f2 t2 lo2 hi2 (qs.map PartW.val)) ∧ Sat W w' [] := by
  have h := Wm.Equal_calls W k f t lo hi A c (ps.map toD) k2 f2 t2 lo2 hi2 A2 c2 (qs.map toD) (by rw [lenD, flatD]; exact hR) (by rw [lenD]; exact hlen) (by rw [lenD, flatD]; exact hR2) (by rw [lenD]; exact hlen2) (bodD hB) (bodD hB2)
  rw [lenD, lenD] at h
  refine h.mono fun e w' ⟨b, h1, h2, h3⟩ => ⟨b, h1, ?_, h3⟩
  rw [h2, sameD, MailV.mk.injEq]
end
/-- How much stands in the parts. -/
def partsZ (ps : List PartW) : Nat := (ps.map fun p => p.b.length + 20).sum
theorem partsZ_len : ∀ ps : List PartW, ps.length ≤ partsZ ps
  | [] => Nat.le_refl _
  | p :: ps => by have := partsZ_len ps; unfold partsZ at *; simp only [List.map_cons, List.sum_cons, List.length_cons]; omega
theorem partsZ_mem : ∀ {ps : List PartW} {p : PartW}, p ∈ ps → p.b.length + 20 ≤ partsZ ps
  | q :: ps, p, h => by
    unfold partsZ
    simp only [List.map_cons, List.sum_cons]
    rcases List.mem_cons.1 h with rfl | h
    · omega
    · have := partsZ_mem h; unfold partsZ at this; omega
theorem goodC_in {cs : List Int} (h : GoodC cs) : ∀ c ∈ cs, 0 ≤ c ∧ c < 64 := fun c hc => by
  obtain ⟨i, hi⟩ := List.getElem?_of_mem hc
  obtain ⟨h1, h2, _⟩ := h i c hi
  exact ⟨h1, h2⟩
theorem cart_in {ps : List PartW} (h : ∀ c ∈ ps.map PartW.cart, 0 ≤ c ∧ c < 64) {p : PartW} (hp : p ∈ ps) : 0 ≤ p.cart ∧ p.cart < 64 := h _ (List.mem_map.2 ⟨p, hp, rfl⟩)
theorem partsB_take {ps : List PartW} (h : ∀ c ∈ ps.map PartW.cart, 0 ≤ c ∧ c < 64) (hz : partsZ ps ≤ 9223372036854775807) (i : Nat) : (partsB ((ps.take i).map PartW.val)).length ≤ partsZ ps := by
  induction ps generalizing i with
  | nil => simp [partsB]
  | cons p ps ih =>
    cases i with
    | zero => simp [partsB]
    | succ i =>
      have hz' : partsZ (p :: ps) = p.b.length + 20 + partsZ ps := by simp [partsZ]
      have := ih (fun c hc => h c (by simp only [List.map_cons, List.mem_cons]; exact .inr hc)) (by omega) i
      have hc := h p.cart (by simp)
      have h1 := numL_nine (n := p.cart.toNat) (by omega)
      have h2 := numL_nine (n := p.b.length) (by omega)
      have e : partsB (((p :: ps).take (i + 1)).map PartW.val) = numL p.cart.toNat ++ (numL p.b.length ++ p.b) ++ partsB ((ps.take i).map PartW.val) := by simp [partsB, partB, PartW.val]
      rw [e]; simp only [List.length_append]; omega
theorem partsB_succ {ps : List PartW} {i : Nat} {p : PartW} (h : ps[i]? = some p) : partsB ((ps.take (i + 1)).map PartW.val) = partsB ((ps.take i).map PartW.val) ++ (numL p.cart.toNat ++ (numL p.b.length ++ p.b)) := by
  rw [List.take_add_one, h]; simp [partsB, partB, PartW.val]
theorem flat_step {l : List Int} {i : Nat} {x : Int} (h : l[i]? = some x) : (((l.map fun x : Int => numL x.toNat).take (i + 1)).flatten) = ((l.map fun x : Int => numL x.toNat).take i).flatten ++ numL x.toNat := by
  rw [List.take_add_one, List.getElem?_map, h]; simp
theorem head_eq {k f t lo hi : Int} {ps : List PartW} : ((([k, f, t, lo, hi, (ps.length : Int)].map fun x : Int => numL x.toNat).take 6).flatten) = headB ⟨k, f, t, lo, hi, ps.map PartW.val⟩ := by simp [headB]
theorem headB_len {k f t lo hi : Int} {ps : List PV} (h : 0 ≤ k ∧ k ≤ 9223372036854775807) (h2 : 0 ≤ f ∧ f ≤ 9223372036854775807) (h3 : 0 ≤ t ∧ t ≤ 9223372036854775807) (h4 : 0 ≤ lo ∧ lo ≤ 9223372036854775807) (h5 : 0 ≤ hi ∧ hi ≤ 9223372036854775807) (h6 : ps.length ≤ 9223372036854775807) : (headB ⟨k, f, t, lo, hi, ps⟩).length ≤ 54 := by
  have a1 := numL_nine (n := k.toNat) (by omega)
  have a2 := numL_nine (n := f.toNat) (by omega)
  have a3 := numL_nine (n := t.toNat) (by omega)
  have a4 := numL_nine (n := lo.toNat) (by omega)
  have a5 := numL_nine (n := hi.toNat) (by omega)
  have a6 := numL_nine h6
  simp only [headB, List.length_append]; omega
end Go.Proofs.Ytfbdcllbgfohdaa.Wk
