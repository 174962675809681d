/- Mails as bytes: plain mathematics. No program, no condition. -/
import Derived.Test.YtfbdcllbgfohdaaWkMail2
import Derived.Test.YtfbdcllbgfohdaaPWire5
import Derived.Test.YtfbdcllbgfohdaaPWire3
set_option linter.unusedVariables false
set_option linter.unusedSimpArgs false
namespace Go.Proofs.Ytfbdcllbgfohdaa.Wk
open Go Go.RowKit Go.Proofs.Ytfbdcllbgfohdaa Go.Proofs.Ytfbdcllbgfohdaa.K
/-! mails as bytes -/
abbrev PV := Int × List UInt8
structure MailV where
  k : Int
  f : Int
  t : Int
  lo : Int
  hi : Int
  ps : List PV
def partB (p : PV) : List UInt8 := numL p.1.toNat ++ (numL p.2.length ++ p.2)
def partsB (ps : List PV) : List UInt8 := ps.flatMap partB
def headB (m : MailV) : List UInt8 := numL m.k.toNat ++ (numL m.f.toNat ++ (numL m.t.toNat ++ (numL m.lo.toNat ++ (numL m.hi.toNat ++ numL m.ps.length))))
def mailB (m : MailV) : List UInt8 := headB m ++ partsB m.ps
def inN (x : Int) : Prop := 0 ≤ x ∧ x ≤ 9223372036854775807
def okP (ps : List PV) : Prop := ∀ p ∈ ps, inN p.1 ∧ p.2.length ≤ 9223372036854775807
def okV (m : MailV) : Prop := inN m.k ∧ inN m.f ∧ inN m.t ∧ inN m.lo ∧ inN m.hi ∧ m.ps.length ≤ 9223372036854775807 ∧ okP m.ps
def GoodC (cs : List Int) : Prop := ∀ (i : Nat) (c : Int), cs[i]? = some c → 0 ≤ c ∧ c < 64 ∧ ∀ d, 0 < i → cs[i - 1]? = some d → d < c
def FormC (k f t lo hi : Int) (cs : List Int) : Prop := 0 ≤ f ∧ f < 16 ∧ 0 ≤ t ∧ t < 16 ∧ f ≠ t ∧ Wm.Itv k lo hi cs.length ∧ GoodC cs
def FormV (m : MailV) : Prop := FormC m.k m.f m.t m.lo m.hi (m.ps.map Prod.fst)
/-- Parts that stand one behind the other. -/
def prs (bs : List UInt8) : Nat → Nat → Option (List PV × Nat)
  | 0, i => some ([], i)
  | n + 1, i => if (rdA bs i).2.2 ≠ 0 then none else if (rdA bs (rdA bs i).2.1).2.2 ≠ 0 then none else
      if bs.length - (rdA bs (rdA bs i).2.1).2.1 < (rdA bs (rdA bs i).2.1).1 then none else
      (prs bs n ((rdA bs (rdA bs i).2.1).2.1 + (rdA bs (rdA bs i).2.1).1)).map fun r => (((((rdA bs i).1 : Nat) : Int), (bs.drop (rdA bs (rdA bs i).2.1).2.1).take (rdA bs (rdA bs i).2.1).1) :: r.1, r.2)
def got (bs : List UInt8) (k f t lo hi : Nat) (r : Option (List PV × Nat)) : Option MailV := match r with
  | none => none
  | some (ps, i) => if i = bs.length then some ⟨k, f, t, lo, hi, ps⟩ else none
/-- The mail that the bytes are, in form or not. -/
def gP (bs : List UInt8) : Option MailV :=
  if (rdA bs 0).2.2 ≠ 0 then none else if (rdA bs (rdA bs 0).2.1).2.2 ≠ 0 then none else if (rdA bs (rdA bs (rdA bs 0).2.1).2.1).2.2 ≠ 0 then none else
  if (rdA bs (rdA bs (rdA bs (rdA bs 0).2.1).2.1).2.1).2.2 ≠ 0 then none else if (rdA bs (rdA bs (rdA bs (rdA bs (rdA bs 0).2.1).2.1).2.1).2.1).2.2 ≠ 0 then none else
  if (rdA bs (rdA bs (rdA bs (rdA bs (rdA bs (rdA bs 0).2.1).2.1).2.1).2.1).2.1).2.2 ≠ 0 then none else
  got bs (rdA bs 0).1 (rdA bs (rdA bs 0).2.1).1 (rdA bs (rdA bs (rdA bs 0).2.1).2.1).1 (rdA bs (rdA bs (rdA bs (rdA bs 0).2.1).2.1).2.1).1 (rdA bs (rdA bs (rdA bs (rdA bs (rdA bs 0).2.1).2.1).2.1).2.1).1
    (prs bs (rdA bs (rdA bs (rdA bs (rdA bs (rdA bs (rdA bs 0).2.1).2.1).2.1).2.1).2.1).1 (rdA bs (rdA bs (rdA bs (rdA bs (rdA bs (rdA bs 0).2.1).2.1).2.1).2.1).2.1).2.1)
section
variable {bs : List UInt8} {v0 v1 v2 v3 v4 v5 a1 a2 a3 a4 a5 a6 e0 e1 e2 e3 e4 e5 : Nat}
theorem gP0 (h0 : rdA bs 0 = (v0, a1, e0)) (he : e0 ≠ 0) : gP bs = none := by unfold gP; rw [h0]; exact if_pos he
theorem gP1 (h0 : rdA bs 0 = (v0, a1, 0)) (h1 : rdA bs a1 = (v1, a2, e1)) (he : e1 ≠ 0) : gP bs = none := by unfold gP; simp only [h0, h1]; simp [he]
theorem gP2 (h0 : rdA bs 0 = (v0, a1, 0)) (h1 : rdA bs a1 = (v1, a2, 0)) (h2 : rdA bs a2 = (v2, a3, e2)) (he : e2 ≠ 0) : gP bs = none := by unfold gP; simp only [h0, h1, h2]; simp [he]
theorem gP3 (h0 : rdA bs 0 = (v0, a1, 0)) (h1 : rdA bs a1 = (v1, a2, 0)) (h2 : rdA bs a2 = (v2, a3, 0)) (h3 : rdA bs a3 = (v3, a4, e3)) (he : e3 ≠ 0) : gP bs = none := by unfold gP; simp only [h0, h1, h2, h3]; simp [he]
theorem gP4 (h0 : rdA bs 0 = (v0, a1, 0)) (h1 : rdA bs a1 = (v1, a2, 0)) (h2 : rdA bs a2 = (v2, a3, 0)) (h3 : rdA bs a3 = (v3, a4, 0)) (h4 : rdA bs a4 = (v4, a5, e4)) (he : e4 ≠ 0) : gP bs = none := by unfold gP; simp only [h0, h1, h2, h3, h4]; simp [he]
theorem gP5 (h0 : rdA bs 0 = (v0, a1, 0)) (h1 : rdA bs a1 = (v1, a2, 0)) (h2 : rdA bs a2 = (v2, a3, 0)) (h3 : rdA bs a3 = (v3, a4, 0)) (h4 : rdA bs a4 = (v4, a5, 0)) (h5 : rdA bs a5 = (v5, a6, e5)) (he : e5 ≠ 0) : gP bs = none := by unfold gP; simp only [h0, h1, h2, h3, h4, h5]; simp [he]
theorem gP6 (h0 : rdA bs 0 = (v0, a1, 0)) (h1 : rdA bs a1 = (v1, a2, 0)) (h2 : rdA bs a2 = (v2, a3, 0)) (h3 : rdA bs a3 = (v3, a4, 0)) (h4 : rdA bs a4 = (v4, a5, 0)) (h5 : rdA bs a5 = (v5, a6, 0)) : gP bs = got bs v0 v1 v2 v3 v4 (prs bs v5 a6) := by unfold gP; simp only [h0, h1, h2, h3, h4, h5]; simp
end
theorem rdA_is {bs : List UInt8} {i v j : Nat} (h : rdA bs i = (v, j, 0)) : i < j ∧ j ≤ bs.length ∧ v ≤ 9223372036854775807 ∧ (bs.drop i).take (j - i) = numL v := by
  have := rdA_ok (bs := bs) (i := i) (by rw [h])
  rw [h] at this
  exact ⟨this.1, this.2.1, this.2.2.1, this.2.2.2.2.1⟩
/-- What stands between i and j. -/
def seg (bs : List UInt8) (i j : Nat) : List UInt8 := (bs.drop i).take (j - i)
theorem seg_app {bs : List UInt8} {i j k : Nat} (h1 : i ≤ j) (h2 : j ≤ k) (h3 : k ≤ bs.length) : seg bs i k = seg bs i j ++ seg bs j k := by
  unfold seg
  have e : (bs.drop i).take (k - i) = (bs.drop i).take ((j - i) + (k - j)) := by congr 1; omega
  rw [e, List.take_add, List.drop_drop, show i + (j - i) = j from by omega]
theorem seg_all (bs : List UInt8) : seg bs 0 bs.length = bs := by simp [seg]
theorem prs_law : ∀ (bs : List UInt8) (n i : Nat) (ps : List PV) (j : Nat), i ≤ bs.length → bs.length ≤ 9223372036854775807 → prs bs n i = some (ps, j) → ps.length = n ∧ i ≤ j ∧ j ≤ bs.length ∧ seg bs i j = partsB ps ∧ okP ps ∧ i + 2 * n ≤ j
  | bs, 0, i, ps, j, hi, _, h => by
    simp only [prs, Option.some.injEq, Prod.mk.injEq] at h
    obtain ⟨rfl, rfl⟩ := h
    exact ⟨rfl, Nat.le_refl _, hi, by simp [seg, partsB], fun p hp => (by cases hp), by omega⟩
  | bs, n + 1, i, ps, j, hi, hl, h => by
    unfold prs at h
    by_cases h1 : (rdA bs i).2.2 = 0
    · rw [if_neg (by omega)] at h
      by_cases h2 : (rdA bs (rdA bs i).2.1).2.2 = 0
      · rw [if_neg (by omega)] at h
        obtain ⟨v, a, hr⟩ : ∃ v a, rdA bs i = (v, a, 0) := ⟨_, _, by rw [← h1]⟩
        rw [hr] at h h2
        obtain ⟨z, b, hs⟩ : ∃ v b, rdA bs a = (v, b, 0) := ⟨_, _, by rw [← h2]⟩
        rw [hs] at h
        dsimp only at h
        obtain ⟨q1, q2, q3, q4⟩ := rdA_is hr
        obtain ⟨r1, r2, r3, r4⟩ := rdA_is hs
        split at h
        · cases h
        · rename_i hz
          cases hp : prs bs n (b + z) with
          | none => rw [hp] at h; cases h
          | some r =>
            rw [hp] at h
            obtain ⟨qs, j'⟩ := r
            simp only [Option.map_some, Option.some.injEq, Prod.mk.injEq] at h
            obtain ⟨rfl, rfl⟩ := h
            obtain ⟨s1, s2, s3, s4, s5, s6⟩ := prs_law bs n (b + z) qs j' (by omega) hl hp
            have hlen : ((bs.drop b).take z).length = z := by simp; omega
            have e3 : seg bs b (b + z) = (bs.drop b).take z := by unfold seg; congr 1; omega
            refine ⟨by simp [s1], by omega, s3, ?_, ?_, by omega⟩
            · rw [seg_app (j := a) (by omega) (by omega) s3, seg_app (i := a) (j := b) (by omega) (by omega) s3, seg_app (i := b) (j := b + z) (by omega) (by omega) s3, s4, e3, show seg bs i a = numL v from q4, show seg bs a b = numL z from r4]
              unfold partsB
              simp only [List.flatMap_cons, partB, Int.toNat_natCast, hlen, List.append_assoc]
            · intro p hp'
              rcases List.mem_cons.1 hp' with rfl | hp'
              · exact ⟨⟨by dsimp only; omega, by dsimp only; omega⟩, by dsimp only; rw [hlen]; omega⟩
              · exact s5 p hp'
      · rw [if_pos h2] at h; cases h
    · rw [if_pos h1] at h; cases h
theorem prs_of : ∀ (ps : List PV) (pre post : List UInt8), okP ps → prs (pre ++ partsB ps ++ post) ps.length pre.length = some (ps, (pre ++ partsB ps).length)
  | [], pre, post, _ => by simp [prs, partsB]
  | p :: ps, pre, post, h => by
    obtain ⟨⟨h1, h2⟩, h3⟩ := h p (by simp)
    have e : pre ++ partsB (p :: ps) ++ post = pre ++ numL p.1.toNat ++ (numL p.2.length ++ p.2 ++ partsB ps ++ post) := by simp [partsB, partB]
    have r1 := rdA_of pre (numL p.2.length ++ p.2 ++ partsB ps ++ post) p.1.toNat (by omega)
    have e2 : pre ++ numL p.1.toNat ++ (numL p.2.length ++ p.2 ++ partsB ps ++ post) = (pre ++ numL p.1.toNat) ++ numL p.2.length ++ (p.2 ++ partsB ps ++ post) := by simp
    have r2 := rdA_of (pre ++ numL p.1.toNat) (p.2 ++ partsB ps ++ post) p.2.length h3
    rw [← e2, List.length_append] at r2
    have e3 : pre ++ numL p.1.toNat ++ (numL p.2.length ++ p.2 ++ partsB ps ++ post) = (pre ++ numL p.1.toNat ++ numL p.2.length) ++ (p.2 ++ (partsB ps ++ post)) := by simp
    have e4 : pre ++ numL p.1.toNat ++ (numL p.2.length ++ p.2 ++ partsB ps ++ post) = (pre ++ numL p.1.toNat ++ numL p.2.length ++ p.2) ++ partsB ps ++ post := by simp
    have ih := prs_of ps (pre ++ numL p.1.toNat ++ numL p.2.length ++ p.2) post (fun q hq => h q (by simp [hq]))
    rw [← e4] at ih
    rw [e, List.length_cons, prs]
    simp only [r1, r2]
    rw [if_neg (by simp), if_neg (by simp), if_neg (by simp; omega)]
    rw [show pre.length + (numL p.1.toNat).length + (numL p.2.length).length + p.2.length = (pre ++ numL p.1.toNat ++ numL p.2.length ++ p.2).length from by simp; omega, ih]
    simp only [Option.map_some, Option.some.injEq, Prod.mk.injEq, List.cons.injEq, and_true]
    refine ⟨?_, by simp [partsB, partB]⟩
    rw [e3, show pre.length + (numL p.1.toNat).length + (numL p.2.length).length = (pre ++ numL p.1.toNat ++ numL p.2.length).length from by simp; omega, List.drop_left, List.take_left]
    exact Prod.ext (by dsimp only; omega) rfl
theorem got_some {bs : List UInt8} {k f t lo hi : Nat} {r : Option (List PV × Nat)} {m : MailV} (h : got bs k f t lo hi r = some m) : r = some (m.ps, bs.length) ∧ m = ⟨k, f, t, lo, hi, m.ps⟩ := by
  unfold got at h
  split at h
  · cases h
  · split at h
    · rename_i hi; subst hi; cases h; exact ⟨rfl, rfl⟩
    · cases h
/-- Bytes that are a mail are that mail's bytes. -/
theorem gP_law {bs : List UInt8} {m : MailV} (hl : bs.length ≤ 9223372036854775807) (h : gP bs = some m) : bs = mailB m ∧ okV m := by
  unfold gP at h
  obtain ⟨v0, a1, e0, h0⟩ : ∃ v a e, rdA bs 0 = (v, a, e) := ⟨_, _, _, rfl⟩
  simp only [h0] at h
  split at h; · cases h
  rename_i k0; obtain rfl : e0 = 0 := by omega
  obtain ⟨v1, a2, e1, h1⟩ : ∃ v a e, rdA bs a1 = (v, a, e) := ⟨_, _, _, rfl⟩
  simp only [h1] at h
  split at h; · cases h
  rename_i k1; obtain rfl : e1 = 0 := by omega
  obtain ⟨v2, a3, e2, h2⟩ : ∃ v a e, rdA bs a2 = (v, a, e) := ⟨_, _, _, rfl⟩
  simp only [h2] at h
  split at h; · cases h
  rename_i k2; obtain rfl : e2 = 0 := by omega
  obtain ⟨v3, a4, e3, h3⟩ : ∃ v a e, rdA bs a3 = (v, a, e) := ⟨_, _, _, rfl⟩
  simp only [h3] at h
  split at h; · cases h
  rename_i k3; obtain rfl : e3 = 0 := by omega
  obtain ⟨v4, a5, e4, h4⟩ : ∃ v a e, rdA bs a4 = (v, a, e) := ⟨_, _, _, rfl⟩
  simp only [h4] at h
  split at h; · cases h
  rename_i k4; obtain rfl : e4 = 0 := by omega
  obtain ⟨v5, a6, e5, h5⟩ : ∃ v a e, rdA bs a5 = (v, a, e) := ⟨_, _, _, rfl⟩
  simp only [h5] at h
  split at h; · cases h
  rename_i k5; obtain rfl : e5 = 0 := by omega
  obtain ⟨hp, hm⟩ := got_some h
  obtain ⟨p0, q0, s0, t0⟩ := rdA_is h0
  obtain ⟨p1, q1, s1, t1⟩ := rdA_is h1
  obtain ⟨p2, q2, s2, t2⟩ := rdA_is h2
  obtain ⟨p3, q3, s3, t3⟩ := rdA_is h3
  obtain ⟨p4, q4, s4, t4⟩ := rdA_is h4
  obtain ⟨p5, q5, s5, t5⟩ := rdA_is h5
  obtain ⟨u1, u2, u3, u4, u5, u6⟩ := prs_law bs v5 a6 m.ps bs.length (by omega) hl hp
  constructor
  · have e : bs = seg bs 0 a1 ++ (seg bs a1 a2 ++ (seg bs a2 a3 ++ (seg bs a3 a4 ++ (seg bs a4 a5 ++ (seg bs a5 a6 ++ seg bs a6 bs.length))))) := by
      rw [← seg_app (by omega) (by omega) (by omega), ← seg_app (by omega) (by omega) (by omega), ← seg_app (by omega) (by omega) (by omega), ← seg_app (by omega) (by omega) (by omega), ← seg_app (by omega) (by omega) (by omega), ← seg_app (by omega) (by omega) (by omega), seg_all]
    have f0 : seg bs 0 a1 = numL v0 := t0
    have f1 : seg bs a1 a2 = numL v1 := t1
    have f2 : seg bs a2 a3 = numL v2 := t2
    have f3 : seg bs a3 a4 = numL v3 := t3
    have f4 : seg bs a4 a5 = numL v4 := t4
    have f5 : seg bs a5 a6 = numL v5 := t5
    rw [f0, f1, f2, f3, f4, f5, u4] at e
    rw [hm]
    unfold mailB headB
    simp only [Int.toNat_natCast, u1]
    simpa using e
  · rw [hm]
    exact ⟨⟨by dsimp only; omega, by dsimp only; omega⟩, ⟨by dsimp only; omega, by dsimp only; omega⟩, ⟨by dsimp only; omega, by dsimp only; omega⟩, ⟨by dsimp only; omega, by dsimp only; omega⟩, ⟨by dsimp only; omega, by dsimp only; omega⟩, by dsimp only; omega, u5⟩
/-- A mail's bytes, and more. -/
theorem gP_of {m : MailV} (post : List UInt8) (h : okV m) : gP (mailB m ++ post) = if post = [] then some m else none := by
  obtain ⟨k, f, t, lo, hi, ps⟩ := m
  obtain ⟨hk, hf, ht, hlo, hhi, hn, hp⟩ := h
  dsimp only [inN] at hk hf ht hlo hhi hn hp
  generalize hbs : mailB ⟨k, f, t, lo, hi, ps⟩ ++ post = bs
  have e : bs = numL k.toNat ++ (numL f.toNat ++ (numL t.toNat ++ (numL lo.toNat ++ (numL hi.toNat ++ (numL ps.length ++ (partsB ps ++ post)))))) := by rw [← hbs]; simp [mailB, headB]
  have h0 := rdA_of [] (numL f.toNat ++ (numL t.toNat ++ (numL lo.toNat ++ (numL hi.toNat ++ (numL ps.length ++ (partsB ps ++ post)))))) k.toNat (by omega)
  have h1 := rdA_of (numL k.toNat) (numL t.toNat ++ (numL lo.toNat ++ (numL hi.toNat ++ (numL ps.length ++ (partsB ps ++ post))))) f.toNat (by omega)
  have h2 := rdA_of (numL k.toNat ++ numL f.toNat) (numL lo.toNat ++ (numL hi.toNat ++ (numL ps.length ++ (partsB ps ++ post)))) t.toNat (by omega)
  have h3 := rdA_of (numL k.toNat ++ numL f.toNat ++ numL t.toNat) (numL hi.toNat ++ (numL ps.length ++ (partsB ps ++ post))) lo.toNat (by omega)
  have h4 := rdA_of (numL k.toNat ++ numL f.toNat ++ numL t.toNat ++ numL lo.toNat) (numL ps.length ++ (partsB ps ++ post)) hi.toNat (by omega)
  have h5 := rdA_of (numL k.toNat ++ numL f.toNat ++ numL t.toNat ++ numL lo.toNat ++ numL hi.toNat) (partsB ps ++ post) ps.length hn
  have h6 := prs_of ps (numL k.toNat ++ numL f.toNat ++ numL t.toNat ++ numL lo.toNat ++ numL hi.toNat ++ numL ps.length) post hp
  simp only [List.append_assoc, List.nil_append, ← e] at h0 h1 h2 h3 h4 h5 h6
  simp only [List.length_append, List.length_nil, Nat.zero_add, ← Nat.add_assoc] at h0 h1 h2 h3 h4 h5 h6
  rw [gP6 h0 h1 h2 h3 h4 h5, h6]
  have hl : bs.length = (numL k.toNat).length + (numL f.toNat).length + (numL t.toNat).length + (numL lo.toNat).length + (numL hi.toNat).length + (numL ps.length).length + (partsB ps).length + post.length := by rw [e]; simp only [List.length_append]; omega
  unfold got
  dsimp only
  by_cases hpo : post = []
  · subst hpo
    rw [if_pos rfl, if_pos (by rw [hl]; simp)]
    simp only [Option.some.injEq, MailV.mk.injEq, and_true]
    omega
  · have : 0 < post.length := List.length_pos_iff.2 hpo
    rw [if_neg hpo, if_neg (by rw [hl]; omega)]
theorem gP_back {m : MailV} (h : okV m) : gP (mailB m) = some m := by have := gP_of (m := m) [] h; simpa using this
theorem gP_more {m : MailV} {post : List UInt8} (h : okV m) (hp : post ≠ []) : gP (mailB m ++ post) = none := by rw [gP_of post h, if_neg hp]
/-- Nothing shorter. -/
theorem gP_less {m : MailV} {k : Nat} (h : okV m) (hk : k < (mailB m).length) (hl : (mailB m).length ≤ 9223372036854775807) : gP ((mailB m).take k) = none := by
  cases hg : gP ((mailB m).take k) with
  | none => rfl
  | some m' =>
    obtain ⟨e, ok'⟩ := gP_law (by simp; omega) hg
    have e2 : mailB m = mailB m' ++ (mailB m).drop k := by rw [← e, List.take_append_drop]
    have h1 := gP_back h
    rw [e2, gP_more ok' (fun h0 => by have := congrArg List.length h0; simp at this; omega)] at h1
    cases h1
theorem form_ok {m : MailV} (h : FormV m) (hb : ∀ p ∈ m.ps, p.2.length ≤ 9223372036854775807) : okV m := by
  obtain ⟨h1, h2, h3, h4, h5, h6, h7⟩ := h
  have hc : ∀ p ∈ m.ps, 0 ≤ p.1 ∧ p.1 < 64 := fun p hp => by
    obtain ⟨i, hi⟩ := List.getElem?_of_mem hp
    obtain ⟨g1, g2, _⟩ := h7 i p.1 (by rw [List.getElem?_map, hi]; rfl)
    exact ⟨g1, g2⟩
  have hn : m.ps.length ≤ 64 := by
    have key : ∀ (i : Nat) (c : Int), (m.ps.map Prod.fst)[i]? = some c → (i : Int) ≤ c := by
      intro i
      induction i with
      | zero => intro c hc; exact (h7 0 c hc).1
      | succ i ih =>
        intro c hc
        have hlt := (List.getElem?_eq_some_iff.1 hc).1
        obtain ⟨d, hd⟩ : ∃ d, (m.ps.map Prod.fst)[i]? = some d := ⟨_, List.getElem?_eq_getElem (by omega)⟩
        have := (h7 (i + 1) c hc).2.2 d (by omega) hd
        have := ih d hd
        omega
    by_cases h0 : m.ps.length = 0
    · omega
    · obtain ⟨c, hc⟩ : ∃ c, (m.ps.map Prod.fst)[m.ps.length - 1]? = some c := ⟨_, List.getElem?_eq_getElem (by simp; omega)⟩
      have := key _ c hc
      have := (h7 _ c hc).2.1
      omega
  unfold Wm.Itv at h6
  exact ⟨⟨by omega, by omega⟩, ⟨h1, by omega⟩, ⟨h3, by omega⟩, ⟨by omega, by omega⟩, ⟨by omega, by omega⟩, by omega, fun p hp => ⟨⟨(hc p hp).1, by have := (hc p hp).2; omega⟩, hb p hp⟩⟩
end Go.Proofs.Ytfbdcllbgfohdaa.Wk
