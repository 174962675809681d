/- What is read as a mail: plain mathematics. No condition. -/
import Derived.Test.YtfbdcllbgfohdaaPMail2
set_option linter.unusedVariables false
set_option linter.unusedSimpArgs false
namespace Go.Proofs.Ytfbdcllbgfohdaa.Wk
open Go Go.RowKit Go.Proofs.Ytfbdcllbgfohdaa Go.Proofs.Ytfbdcllbgfohdaa.K
/-! what is read -/
theorem gP_is {bs : List UInt8} {m : MailV} (h : gP bs = some m) : ∃ v0 a1 v1 a2 v2 a3 v3 a4 v4 a5 v5 a6 : Nat, rdA bs 0 = (v0, a1, 0) ∧ rdA bs a1 = (v1, a2, 0) ∧ rdA bs a2 = (v2, a3, 0) ∧ rdA bs a3 = (v3, a4, 0) ∧ rdA bs a4 = (v4, a5, 0) ∧ rdA bs a5 = (v5, a6, 0) ∧ prs bs v5 a6 = some (m.ps, bs.length) ∧ m = ⟨v0, v1, v2, v3, v4, m.ps⟩ := by
  unfold gP at h
  obtain ⟨v0, a1, e0, h0⟩ : ∃ v a e, rdA bs 0 = (v, a, e) := ⟨_, _, _, rfl⟩
  simp only [h0] at h
  split at h; · cases h
  rename_i k0; obtain rfl : e0 = 0 := by omega
  obtain ⟨v1, a2, e1, h1⟩ : ∃ v a e, rdA bs a1 = (v, a, e) := ⟨_, _, _, rfl⟩
  simp only [h1] at h
  split at h; · cases h
  rename_i k1; obtain rfl : e1 = 0 := by omega
  obtain ⟨v2, a3, e2, h2⟩ : ∃ v a e, rdA bs a2 = (v, a, e) := ⟨_, _, _, rfl⟩
  simp only [h2] at h
  split at h; · cases h
  rename_i k2; obtain rfl : e2 = 0 := by omega
  obtain ⟨v3, a4, e3, h3⟩ : ∃ v a e, rdA bs a3 = (v, a, e) := ⟨_, _, _, rfl⟩
  simp only [h3] at h
  split at h; · cases h
  rename_i k3; obtain rfl : e3 = 0 := by omega
  obtain ⟨v4, a5, e4, h4⟩ : ∃ v a e, rdA bs a4 = (v, a, e) := ⟨_, _, _, rfl⟩
  simp only [h4] at h
  split at h; · cases h
  rename_i k4; obtain rfl : e4 = 0 := by omega
  obtain ⟨v5, a6, e5, h5⟩ : ∃ v a e, rdA bs a5 = (v, a, e) := ⟨_, _, _, rfl⟩
  simp only [h5] at h
  split at h; · cases h
  rename_i k5; obtain rfl : e5 = 0 := by omega
  obtain ⟨hp, hm⟩ := got_some h
  exact ⟨v0, a1, v1, a2, v2, a3, v3, a4, v4, a5, v5, a6, h0, h1, h2, h3, h4, h5, hp, hm⟩
/-- No mail in form. -/
def NG (bs : List UInt8) : Prop := ∀ m, gP bs = some m → ¬ FormV m
theorem NG.of {bs : List UInt8} (h : gP bs = none) : NG bs := fun m hm => by rw [h] at hm; cases hm
/-- A number that can't be read, or is too great. -/
def bad (bs : List UInt8) (i : Nat) (mo : Int) : Prop := (rdA bs i).2.2 ≠ 0 ∨ ∃ v a : Nat, rdA bs i = (v, a, 0) ∧ mo < (v : Int)
theorem upR_no {bs : List UInt8} {i : Nat} {mo : Int} (h : (upR bs i mo).2.2 ≠ 0) : bad bs i mo := by
  unfold upR at h
  by_cases h1 : (rdA bs i).2.2 = 0
  · rw [if_neg (by omega)] at h
    split at h
    · rename_i h2; exact .inr ⟨(rdA bs i).1, (rdA bs i).2.1, by rw [← h1], h2⟩
    · exact absurd rfl h
  · exact .inl h1
theorem upR_is {bs : List UInt8} {i : Nat} {mo : Int} (h : (upR bs i mo).2.2 = 0) : ∃ v a : Nat, rdA bs i = (v, a, 0) ∧ (v : Int) ≤ mo ∧ upR bs i mo = (v, a, 0) := by
  by_cases h1 : (rdA bs i).2.2 = 0
  · by_cases h2 : mo < ((rdA bs i).1 : Int)
    · rw [upR_wide h1 h2] at h; simp at h
    · refine ⟨(rdA bs i).1, (rdA bs i).2.1, by rw [← h1], by omega, upR_ok h1 (by omega)⟩
  · rw [upR_err h1] at h; exact absurd h h1
theorem cnR_is {bs : List UInt8} {i : Nat} (h : (cnR bs i 2).2.2 = 0) : ∃ v a : Nat, rdA bs i = (v, a, 0) ∧ (v : Int) ≤ ((bs.length : Int) - a) / 2 ∧ cnR bs i 2 = (v, a, 0) := by
  by_cases h1 : (rdA bs i).2.2 = 0
  · by_cases h2 : ((bs.length : Int) - ((rdA bs i).2.1 : Int)) / max 2 1 < ((rdA bs i).1 : Int)
    · rw [cnR_short h1 h2] at h; simp at h
    · refine ⟨(rdA bs i).1, (rdA bs i).2.1, by rw [← h1], by rw [show max (2 : Int) 1 = 2 from rfl] at h2; omega, cnR_ok h1 h2⟩
  · rw [cnR_err h1] at h; exact absurd h h1
theorem cnR_no {bs : List UInt8} {i : Nat} (h : (cnR bs i 2).2.2 ≠ 0) : (rdA bs i).2.2 ≠ 0 ∨ ∃ v a : Nat, rdA bs i = (v, a, 0) ∧ ((bs.length : Int) - a) / 2 < (v : Int) := by
  by_cases h1 : (rdA bs i).2.2 = 0
  · by_cases h2 : ((bs.length : Int) - ((rdA bs i).2.1 : Int)) / max 2 1 < ((rdA bs i).1 : Int)
    · exact .inr ⟨(rdA bs i).1, (rdA bs i).2.1, by rw [← h1], by rw [show max (2 : Int) 1 = 2 from rfl] at h2; omega⟩
    · rw [cnR_ok h1 h2] at h; exact absurd rfl h
  · exact .inl h1
theorem form_le {m : MailV} (h : FormV m) : m.k ≤ 6 ∧ m.f ≤ 16 ∧ m.t ≤ 16 ∧ m.lo ≤ 4611686018427387904 ∧ m.hi ≤ 4611686018427387904 := by
  obtain ⟨h1, h2, h3, h4, h5, h6, h7⟩ := h
  unfold Wm.Itv at h6
  omega
section
variable {bs : List UInt8} {v0 v1 v2 v3 v4 v5 a1 a2 a3 a4 a5 a6 : Nat}
theorem NG0 (hb : bad bs 0 6) : NG bs := fun m hm hF => by
  obtain ⟨w0, b1, w1, b2, w2, b3, w3, b4, w4, b5, w5, b6, g0, g1, g2, g3, g4, g5, hp, he⟩ := gP_is hm
  have hl := form_le hF
  rw [he] at hl
  rcases hb with hb | ⟨v, a, hr, hv⟩
  · rw [g0] at hb; exact hb rfl
  · rw [g0] at hr; injection hr with q1 q2; dsimp only at hl; omega
theorem NG1 (h0 : rdA bs 0 = (v0, a1, 0)) (hb : bad bs a1 16) : NG bs := fun m hm hF => by
  obtain ⟨w0, b1, w1, b2, w2, b3, w3, b4, w4, b5, w5, b6, g0, g1, g2, g3, g4, g5, hp, he⟩ := gP_is hm
  have hl := form_le hF
  rw [he] at hl
  rw [h0] at g0; injection g0 with q1 q2; injection q2 with q2 q3; subst q2
  rcases hb with hb | ⟨v, a, hr, hv⟩
  · rw [g1] at hb; exact hb rfl
  · rw [g1] at hr; injection hr with q1 q2; dsimp only at hl; omega
theorem NG2 (h0 : rdA bs 0 = (v0, a1, 0)) (h1 : rdA bs a1 = (v1, a2, 0)) (hb : bad bs a2 16) : NG bs := fun m hm hF => by
  obtain ⟨w0, b1, w1, b2, w2, b3, w3, b4, w4, b5, w5, b6, g0, g1, g2, g3, g4, g5, hp, he⟩ := gP_is hm
  have hl := form_le hF
  rw [he] at hl
  rw [h0] at g0; injection g0 with q1 q2; injection q2 with q2 q3; subst q2
  rw [h1] at g1; injection g1 with q1 q2; injection q2 with q2 q3; subst q2
  rcases hb with hb | ⟨v, a, hr, hv⟩
  · rw [g2] at hb; exact hb rfl
  · rw [g2] at hr; injection hr with q1 q2; dsimp only at hl; omega
theorem NG3 (h0 : rdA bs 0 = (v0, a1, 0)) (h1 : rdA bs a1 = (v1, a2, 0)) (h2 : rdA bs a2 = (v2, a3, 0)) (hb : bad bs a3 4611686018427387904) : NG bs := fun m hm hF => by
  obtain ⟨w0, b1, w1, b2, w2, b3, w3, b4, w4, b5, w5, b6, g0, g1, g2, g3, g4, g5, hp, he⟩ := gP_is hm
  have hl := form_le hF
  rw [he] at hl
  rw [h0] at g0; injection g0 with q1 q2; injection q2 with q2 q3; subst q2
  rw [h1] at g1; injection g1 with q1 q2; injection q2 with q2 q3; subst q2
  rw [h2] at g2; injection g2 with q1 q2; injection q2 with q2 q3; subst q2
  rcases hb with hb | ⟨v, a, hr, hv⟩
  · rw [g3] at hb; exact hb rfl
  · rw [g3] at hr; injection hr with q1 q2; dsimp only at hl; omega
theorem NG4 (h0 : rdA bs 0 = (v0, a1, 0)) (h1 : rdA bs a1 = (v1, a2, 0)) (h2 : rdA bs a2 = (v2, a3, 0)) (h3 : rdA bs a3 = (v3, a4, 0)) (hb : bad bs a4 4611686018427387904) : NG bs := fun m hm hF => by
  obtain ⟨w0, b1, w1, b2, w2, b3, w3, b4, w4, b5, w5, b6, g0, g1, g2, g3, g4, g5, hp, he⟩ := gP_is hm
  have hl := form_le hF
  rw [he] at hl
  rw [h0] at g0; injection g0 with q1 q2; injection q2 with q2 q3; subst q2
  rw [h1] at g1; injection g1 with q1 q2; injection q2 with q2 q3; subst q2
  rw [h2] at g2; injection g2 with q1 q2; injection q2 with q2 q3; subst q2
  rw [h3] at g3; injection g3 with q1 q2; injection q2 with q2 q3; subst q2
  rcases hb with hb | ⟨v, a, hr, hv⟩
  · rw [g4] at hb; exact hb rfl
  · rw [g4] at hr; injection hr with q1 q2; dsimp only at hl; omega
theorem NG5 (hbl : bs.length ≤ 9223372036854775807) (h0 : rdA bs 0 = (v0, a1, 0)) (h1 : rdA bs a1 = (v1, a2, 0)) (h2 : rdA bs a2 = (v2, a3, 0)) (h3 : rdA bs a3 = (v3, a4, 0)) (h4 : rdA bs a4 = (v4, a5, 0)) (hb : (rdA bs a5).2.2 ≠ 0 ∨ ∃ v a : Nat, rdA bs a5 = (v, a, 0) ∧ ((bs.length : Int) - a) / 2 < (v : Int)) : NG bs := fun m hm hF => by
  obtain ⟨w0, b1, w1, b2, w2, b3, w3, b4, w4, b5, w5, b6, g0, g1, g2, g3, g4, g5, hp, he⟩ := gP_is hm
  rw [h0] at g0; injection g0 with q1 q2; injection q2 with q2 q3; subst q2
  rw [h1] at g1; injection g1 with q1 q2; injection q2 with q2 q3; subst q2
  rw [h2] at g2; injection g2 with q1 q2; injection q2 with q2 q3; subst q2
  rw [h3] at g3; injection g3 with q1 q2; injection q2 with q2 q3; subst q2
  rw [h4] at g4; injection g4 with q1 q2; injection q2 with q2 q3; subst q2
  rcases hb with hb | ⟨v, a, hr, hv⟩
  · rw [g5] at hb; exact hb rfl
  · rw [g5] at hr; injection hr with q1 q2; injection q2 with q2 q3; subst q1 q2
    have := prs_law bs w5 b6 m.ps bs.length (rdA_is g5).2.1 hbl hp
    omega
end
/-- Parts that were read, and those to come. -/
def catP (done : List PV) (r : Option (List PV × Nat)) : Option (List PV × Nat) := r.map fun r => (done ++ r.1, r.2)
theorem catP_nil (r : Option (List PV × Nat)) : catP [] r = r := by cases r <;> rfl
theorem catP_catP (d e : List PV) (r : Option (List PV × Nat)) : catP d (catP e r) = catP (d ++ e) r := by cases r <;> simp [catP]
theorem prs_ok {bs : List UInt8} {n i v a z d : Nat} (h1 : rdA bs i = (v, a, 0)) (h2 : rdA bs a = (z, d, 0)) (h3 : z ≤ bs.length - d) : prs bs (n + 1) i = catP [((v : Int), (bs.drop d).take z)] (prs bs n (d + z)) := by
  rw [prs]; simp only [h1, h2]
  rw [if_neg (by simp), if_neg (by simp), if_neg (by omega)]
  rfl
theorem prs_no1 {bs : List UInt8} {n i : Nat} (h : (rdA bs i).2.2 ≠ 0) : prs bs (n + 1) i = none := by rw [prs, if_pos h]
theorem prs_no2 {bs : List UInt8} {n i v a : Nat} (h1 : rdA bs i = (v, a, 0)) (h : (rdA bs a).2.2 ≠ 0 ∨ ∃ z d : Nat, rdA bs a = (z, d, 0) ∧ bs.length - d < z) : prs bs (n + 1) i = none := by
  rw [prs]; simp only [h1]
  rw [if_neg (by simp)]
  rcases h with h | ⟨z, d, h2, h3⟩
  · rw [if_pos h]
  · simp only [h2]; rw [if_neg (by simp), if_pos h3]
theorem pcR_is {bs : List UInt8} {i : Nat} (h : (pcR bs i 9223372036854775807).2.2 = 0) : ∃ z d : Nat, rdA bs i = (z, d, 0) ∧ z ≤ bs.length - d ∧ pcR bs i 9223372036854775807 = ((bs.drop d).take z, d + z, 0) := by
  by_cases h1 : (upR bs i 9223372036854775807).2.2 = 0
  · obtain ⟨v, a, hr, hv, hu⟩ := upR_is h1
    by_cases h2 : bs.length - (upR bs i 9223372036854775807).2.1 < (upR bs i 9223372036854775807).1
    · rw [pcR_short h1 h2] at h; simp at h
    · have := pcR_ok h1 (show (upR bs i 9223372036854775807).1 ≤ bs.length - (upR bs i 9223372036854775807).2.1 by omega)
      rw [hu] at this h2
      exact ⟨v, a, hr, by dsimp only at h2; omega, this⟩
  · rw [pcR_err h1] at h; exact absurd h h1
theorem pcR_no {bs : List UInt8} {i : Nat} (h : (pcR bs i 9223372036854775807).2.2 ≠ 0) : (rdA bs i).2.2 ≠ 0 ∨ ∃ z d : Nat, rdA bs i = (z, d, 0) ∧ bs.length - d < z := by
  by_cases h1 : (upR bs i 9223372036854775807).2.2 = 0
  · obtain ⟨v, a, hr, hv, hu⟩ := upR_is h1
    by_cases h2 : bs.length - (upR bs i 9223372036854775807).2.1 < (upR bs i 9223372036854775807).1
    · rw [hu] at h2; exact .inr ⟨v, a, hr, h2⟩
    · rw [pcR_ok h1 (by omega)] at h; exact absurd rfl h
  · rcases upR_no h1 with h2 | ⟨v, a, hr, hv⟩
    · exact .inl h2
    · exact absurd (rdA_is hr).2.2.1 (by omega)
section
variable {bs : List UInt8} {v0 v1 v2 v3 v4 v5 a1 a2 a3 a4 a5 a6 : Nat}
theorem NG6 (h0 : rdA bs 0 = (v0, a1, 0)) (h1 : rdA bs a1 = (v1, a2, 0)) (h2 : rdA bs a2 = (v2, a3, 0)) (h3 : rdA bs a3 = (v3, a4, 0)) (h4 : rdA bs a4 = (v4, a5, 0)) (h5 : rdA bs a5 = (v5, a6, 0)) (hp : prs bs v5 a6 = none) : NG bs :=
  NG.of (by rw [gP6 h0 h1 h2 h3 h4 h5, hp]; rfl)
theorem NG7 (h0 : rdA bs 0 = (v0, a1, 0)) (h1 : rdA bs a1 = (v1, a2, 0)) (h2 : rdA bs a2 = (v2, a3, 0)) (h3 : rdA bs a3 = (v3, a4, 0)) (h4 : rdA bs a4 = (v4, a5, 0)) (h5 : rdA bs a5 = (v5, a6, 0)) {done : List PV} {n i : Nat} (hp : prs bs v5 a6 = catP done (prs bs (n + 1) i)) (hb : bad bs i 64) : NG bs := by
  rcases hb with hb | ⟨v, a, hr, hv⟩
  · refine NG6 h0 h1 h2 h3 h4 h5 ?_
    rw [hp, prs_no1 hb]; rfl
  · intro m hm hF
    rw [gP6 h0 h1 h2 h3 h4 h5] at hm
    obtain ⟨hq, hm2⟩ := got_some hm
    rw [hp] at hq
    by_cases hz : (rdA bs a).2.2 = 0
    · obtain ⟨z, d, hs⟩ : ∃ z d, rdA bs a = (z, d, 0) := ⟨_, _, by rw [← hz]⟩
      by_cases hl : z ≤ bs.length - d
      · rw [prs_ok hr hs hl, catP_catP] at hq
        cases hc : prs bs n (d + z) with
        | none => rw [hc] at hq; cases hq
        | some r =>
          rw [hc] at hq
          simp only [catP, Option.map_some, Option.some.injEq, Prod.mk.injEq] at hq
          have hcart : (v : Int) ∈ m.ps.map Prod.fst := by rw [← hq.1]; simp
          have := goodC_in hF.2.2.2.2.2.2 _ hcart
          omega
      · rw [prs_no2 hr (.inr ⟨z, d, hs, by omega⟩)] at hq; cases hq
    · rw [prs_no2 hr (.inl hz)] at hq; cases hq
theorem NG8 (h0 : rdA bs 0 = (v0, a1, 0)) (h1 : rdA bs a1 = (v1, a2, 0)) (h2 : rdA bs a2 = (v2, a3, 0)) (h3 : rdA bs a3 = (v3, a4, 0)) (h4 : rdA bs a4 = (v4, a5, 0)) (h5 : rdA bs a5 = (v5, a6, 0)) {done : List PV} {n i v a : Nat} (hp : prs bs v5 a6 = catP done (prs bs (n + 1) i)) (hr : rdA bs i = (v, a, 0)) (hb : (rdA bs a).2.2 ≠ 0 ∨ ∃ z d : Nat, rdA bs a = (z, d, 0) ∧ bs.length - d < z) : NG bs :=
  NG6 h0 h1 h2 h3 h4 h5 (by rw [hp, prs_no2 hr hb]; rfl)
end
theorem prs_step {bs : List UInt8} {v5 a6 n i v a z d : Nat} {done : List PV} (hp : prs bs v5 a6 = catP done (prs bs (n + 1) i)) (h1 : rdA bs i = (v, a, 0)) (h2 : rdA bs a = (z, d, 0)) (h3 : z ≤ bs.length - d) : prs bs v5 a6 = catP (done ++ [((v : Int), (bs.drop d).take z)]) (prs bs n (d + z)) := by
  rw [hp, prs_ok h1 h2 h3, catP_catP]
theorem prs_over {bs : List UInt8} {v5 a6 i : Nat} {done : List PV} (hp : prs bs v5 a6 = catP done (prs bs 0 i)) : prs bs v5 a6 = some (done, i) := by rw [hp]; simp [prs, catP]
theorem partW_snoc (ps : List PartW) (p : PartW) : ps.flatMap encW ++ encW p = (ps ++ [p]).flatMap encW := by simp
def SB (ps : List PartW) : As := stars ((ps.map PartW.fr).map (FrD.row 5))
theorem SB_snoc {W w : World} {L : List As} {ps : List PartW} {p : PartW} (s : Sat W w (row 5 1 (.slice p.A p.b.length p.c) p.b.length (p.b.map bcell) :: SB ps :: L)) : Sat W w (SB (ps ++ [p]) :: L) := by
  unfold SB at *
  have h := s.starsSnoc
  rw [List.map_append, List.map_append]
  exact h
theorem SB_nil {W w : World} {L : List As} (s : Sat W w L) : Sat W w (SB [] :: L) := s.starsNil
def getO (bs : List UInt8) (ok : Bool) (err at_ : Int) (m : MailV) : Prop :=
  (ok = true ∧ err = 0 ∧ ∃ i : Nat, at_ = i ∧ i ≤ bs.length ∧ gP bs = if i = bs.length then some m else none) ∨ (ok = false ∧ err ≠ 0 ∧ NG bs)
theorem got_of {bs : List UInt8} {v0 v1 v2 v3 v4 v5 a1 a2 a3 a4 a5 a6 i : Nat} {ps : List PV} (h0 : rdA bs 0 = (v0, a1, 0)) (h1 : rdA bs a1 = (v1, a2, 0)) (h2 : rdA bs a2 = (v2, a3, 0)) (h3 : rdA bs a3 = (v3, a4, 0)) (h4 : rdA bs a4 = (v4, a5, 0)) (h5 : rdA bs a5 = (v5, a6, 0)) (hp : prs bs v5 a6 = catP ps (prs bs 0 i)) : gP bs = if i = bs.length then some ⟨v0, v1, v2, v3, v4, ps⟩ else none := by
  rw [gP6 h0 h1 h2 h3 h4 h5, prs_over hp]; rfl
end Go.Proofs.Ytfbdcllbgfohdaa.Wk
