/- What Put, Get, Size, Check and Equal answer, case by case. Conditions: at most 10 to the 12 bytes. -/
import Derived.Test.YtfbdcllbgfohdaaWkM2
import Derived.Test.YtfbdcllbgfohdaaWkM3
set_option linter.unusedVariables false
set_option linter.unusedSimpArgs false
namespace Go.Proofs.Ytfbdcllbgfohdaa.Wk
open Go Go.RowKit Go.Proofs.Ytfbdcllbgfohdaa Go.Proofs.Ytfbdcllbgfohdaa.K
/-! contracts, told by case -/
abbrev MG (k f t lo hi : Int) (A : Option Addr) (n c : Nat) : Value := .agg #[.int .i64 k, .int .i64 f, .int .i64 t, .int .i64 lo, .int .i64 hi, .slice A n c]
abbrev RB (A : Option Addr) (c : Nat) (bs : List UInt8) : As := row 5 1 (.slice A bs.length c) bs.length (bs.map bcell)
abbrev PRw (A : Option Addr) (c : Nat) (ps : List PartW) : As := row 49 2 (.slice A ps.length c) ps.length (ps.flatMap encW)
section
variable (W : World) (k f t lo hi : Int) (A : Option Addr) (c : Nat) (ps : List PartW)
abbrev mv : MailV := ⟨k, f, t, lo, hi, ps.map PartW.val⟩
abbrev fc : Prop := FormC k f t lo hi (ps.map PartW.cart)
theorem Put_yes (hR : Rd W 2 (.slice A ps.length c) ps.length (ps.flatMap encW)) (hlen : ps.length ≤ 1000000000000) (hB : BodW W ps) (hbk : partsZ ps ≤ 1000000000000) (hF : fc k f t lo hi ps) :
    Calls Try.prog 27 #[MG k f t lo hi A ps.length c] W fun e w' => ∃ A' c', e = .returned (.tuple #[.slice A' (mailB (mv k f t lo hi ps)).length c', .int .i64 0]) ∧ Sat W w' [RB A' c' (mailB (mv k f t lo hi ps))] :=
  (Put_calls W k f t lo hi A c ps hR hlen hB hbk).mono fun e w' h => by
    rcases h with ⟨_, h⟩ | ⟨h, _⟩
    · exact h
    · exact absurd hF h
theorem Put_not (hR : Rd W 2 (.slice A ps.length c) ps.length (ps.flatMap encW)) (hlen : ps.length ≤ 1000000000000) (hB : BodW W ps) (hbk : partsZ ps ≤ 1000000000000) (hF : ¬ fc k f t lo hi ps) :
    Calls Try.prog 27 #[MG k f t lo hi A ps.length c] W fun e w' => e = .returned (.tuple #[.slice none 0 0, .int .i64 1]) ∧ Sat W w' [] :=
  (Put_calls W k f t lo hi A c ps hR hlen hB hbk).mono fun e w' h => by
    rcases h with ⟨h, _⟩ | ⟨_, h⟩
    · exact absurd h hF
    · exact h
theorem RefPut_yes (hR : Rd W 2 (.slice A ps.length c) ps.length (ps.flatMap encW)) (hlen : ps.length ≤ 1000000000000) (hB : BodW W ps) (hbk : partsZ ps ≤ 1000000000000) (hF : fc k f t lo hi ps) :
    Calls Try.prog 28 #[MG k f t lo hi A ps.length c] W fun e w' => ∃ A' c', e = .returned (.tuple #[.slice A' (mailB (mv k f t lo hi ps)).length c', .int .i64 0]) ∧ Sat W w' [RB A' c' (mailB (mv k f t lo hi ps))] :=
  (RefPut_calls W k f t lo hi A c ps hR hlen hB hbk).mono fun e w' h => by
    rcases h with ⟨_, h⟩ | ⟨h, _⟩
    · exact h
    · exact absurd hF h
theorem RefPut_not (hR : Rd W 2 (.slice A ps.length c) ps.length (ps.flatMap encW)) (hlen : ps.length ≤ 1000000000000) (hB : BodW W ps) (hbk : partsZ ps ≤ 1000000000000) (hF : ¬ fc k f t lo hi ps) :
    Calls Try.prog 28 #[MG k f t lo hi A ps.length c] W fun e w' => e = .returned (.tuple #[.slice none 0 0, .int .i64 1]) ∧ Sat W w' [] :=
  (RefPut_calls W k f t lo hi A c ps hR hlen hB hbk).mono fun e w' h => by
    rcases h with ⟨h, _⟩ | ⟨_, h⟩
    · exact absurd h hF
    · exact h
theorem Size_yes (hR : Rd W 2 (.slice A ps.length c) ps.length (ps.flatMap encW)) (hlen : ps.length ≤ 1000000000000) (hB : BodW W ps) (hbk : partsZ ps ≤ 1000000000000) (hF : fc k f t lo hi ps) :
    Calls Try.prog 29 #[MG k f t lo hi A ps.length c] W fun e w' => e = .returned (.tuple #[.int .i64 (((mailB (mv k f t lo hi ps)).length : Nat) : Int), .int .i64 0]) ∧ Sat W w' [] :=
  (Size_calls W k f t lo hi A c ps hR hlen hB hbk).mono fun e w' h => by
    rcases h with ⟨_, h⟩ | ⟨h, _⟩
    · exact h
    · exact absurd hF h
theorem Size_not (hR : Rd W 2 (.slice A ps.length c) ps.length (ps.flatMap encW)) (hlen : ps.length ≤ 1000000000000) (hB : BodW W ps) (hbk : partsZ ps ≤ 1000000000000) (hF : ¬ fc k f t lo hi ps) :
    Calls Try.prog 29 #[MG k f t lo hi A ps.length c] W fun e w' => e = .returned (.tuple #[.int .i64 0, .int .i64 1]) ∧ Sat W w' [] :=
  (Size_calls W k f t lo hi A c ps hR hlen hB hbk).mono fun e w' h => by
    rcases h with ⟨h, _⟩ | ⟨_, h⟩
    · exact absurd h hF
    · exact h
theorem Chk_yes (hR : Rd W 2 (.slice A ps.length c) ps.length (ps.flatMap encW)) (hlen : ps.length ≤ 1000000000000) (hF : fc k f t lo hi ps) : Calls Try.prog 16 #[MG k f t lo hi A ps.length c] W fun e w' => e = .returned (.int .i64 0) ∧ Sat W w' [] :=
  (CheckW W k f t lo hi A c ps hR (by omega)).mono fun e w' ⟨er, he, h, hS⟩ => by
    rcases h with ⟨rfl, _⟩ | ⟨_, h⟩
    · exact ⟨he, hS⟩
    · exact absurd hF h
theorem RefChk_yes (hR : Rd W 2 (.slice A ps.length c) ps.length (ps.flatMap encW)) (hlen : ps.length ≤ 1000000000000) (hF : fc k f t lo hi ps) : Calls Try.prog 14 #[MG k f t lo hi A ps.length c] W fun e w' => e = .returned (.int .i64 0) ∧ Sat W w' [] :=
  (RefCheckW W k f t lo hi A c ps hR (by omega)).mono fun e w' ⟨er, he, h, hS⟩ => by
    rcases h with ⟨rfl, _⟩ | ⟨_, h⟩
    · exact ⟨he, hS⟩
    · exact absurd hF h
theorem RefChk_not (hR : Rd W 2 (.slice A ps.length c) ps.length (ps.flatMap encW)) (hlen : ps.length ≤ 1000000000000) (hF : ¬ fc k f t lo hi ps) : Calls Try.prog 14 #[MG k f t lo hi A ps.length c] W fun e w' => e = .returned (.int .i64 1) ∧ Sat W w' [] :=
  (RefCheckW W k f t lo hi A c ps hR (by omega)).mono fun e w' ⟨er, he, h, hS⟩ => by
    rcases h with ⟨_, h⟩ | ⟨rfl, _⟩
    · exact absurd h hF
    · exact ⟨he, hS⟩
end
section
variable (W : World) (A : Option Addr) (c : Nat) (bs : List UInt8)
def GetY (W : World) (bs : List UInt8) (m : MailV) (e : Ending) (w' : World) : Prop :=
  ∃ (A' : Option Addr) (c' : Nat) (ps : List PartW), e = .returned (.tuple #[MG m.k m.f m.t m.lo m.hi A' ps.length c', .int .i64 0]) ∧ ps.map PartW.val = m.ps ∧ ps.length ≤ bs.length ∧ (∀ p ∈ ps, p.b.length ≤ bs.length) ∧ Sat W w' [PRw A' c' ps, SB ps]
theorem Get_yes (hR : Rd W 1 (.slice A bs.length c) bs.length (bs.map bcell)) (hb : bs.length ≤ 1000000000000) (m : MailV) (hg : gP bs = some m) (hF : FormV m) : Calls Try.prog 26 #[.slice A bs.length c] W fun e w' => GetY W bs m e w' :=
  (Get_calls W A c bs hR hb).mono fun e w' h => by
    rcases h with ⟨k, f, t, lo, hi, A', c', ps, hg', hF', he, h1, h2, hS⟩ | ⟨hn, _⟩
    · rw [hg] at hg'; cases hg'; exact ⟨A', c', ps, he, rfl, h1, h2, hS⟩
    · exact absurd hF (hn m hg)
theorem Get_not (hR : Rd W 1 (.slice A bs.length c) bs.length (bs.map bcell)) (hb : bs.length ≤ 1000000000000) (hn : NG bs) : Calls Try.prog 26 #[.slice A bs.length c] W fun e w' => e = .returned (.tuple #[MG 0 0 0 0 0 none 0 0, .int .i64 8]) ∧ Sat W w' [] :=
  (Get_calls W A c bs hR hb).mono fun e w' h => by
    rcases h with ⟨k, f, t, lo, hi, A', c', ps, hg', hF', he, h1, h2, hS⟩ | ⟨_, h⟩
    · exact absurd (formP.2 hF') (hn _ hg')
    · exact h
theorem RefGet_yes (hR : Rd W 1 (.slice A bs.length c) bs.length (bs.map bcell)) (hb : bs.length ≤ 1000000000000) (m : MailV) (hg : gP bs = some m) (hF : FormV m) : Calls Try.prog 25 #[.slice A bs.length c] W fun e w' => GetY W bs m e w' :=
  (RefGet_calls W A c bs hR hb).mono fun e w' h => by
    rcases h with ⟨k, f, t, lo, hi, A', c', ps, hg', hF', he, h1, h2, hS⟩ | ⟨hn, _⟩
    · rw [hg] at hg'; cases hg'; exact ⟨A', c', ps, he, rfl, h1, h2, hS⟩
    · exact absurd hF (hn m hg)
theorem RefGet_not (hR : Rd W 1 (.slice A bs.length c) bs.length (bs.map bcell)) (hb : bs.length ≤ 1000000000000) (hn : NG bs) : Calls Try.prog 25 #[.slice A bs.length c] W fun e w' => e = .returned (.tuple #[MG 0 0 0 0 0 none 0 0, .int .i64 8]) ∧ Sat W w' [] :=
  (RefGet_calls W A c bs hR hb).mono fun e w' h => by
    rcases h with ⟨k, f, t, lo, hi, A', c', ps, hg', hF', he, h1, h2, hS⟩ | ⟨_, h⟩
    · exact absurd (formP.2 hF') (hn _ hg')
    · exact h
theorem EqB_yes (A2 : Option Addr) (c2 : Nat) (hX : Rd W 1 (.slice A bs.length c) bs.length (bs.map bcell)) (hY : Rd W 1 (.slice A2 bs.length c2) bs.length (bs.map bcell)) (hx : bs.length ≤ 1000000000000) : Calls Try.prog 23 #[.slice A bs.length c, .slice A2 bs.length c2] W fun e w' => e = .returned (.bool true) ∧ Sat W w' [] := by
  have h := EqualBytesW W A c bs A2 c2 bs hX hY (by omega) (by omega)
  rwa [decide_eq_true rfl] at h
end
section
variable (W : World) (m : MailV) (A : Option Addr) (c : Nat) (ps : List PartW) (A2 : Option Addr) (c2 : Nat) (qs : List PartW)
theorem Eq_yes (hp : ps.map PartW.val = m.ps) (hq : qs.map PartW.val = m.ps) (hR : Rd W 2 (.slice A ps.length c) ps.length (ps.flatMap encW)) (hlen : ps.length ≤ 1000000000000) (hR2 : Rd W 2 (.slice A2 qs.length c2) qs.length (qs.flatMap encW)) (hlen2 : qs.length ≤ 1000000000000) (hB : BodW W ps) (hB2 : BodW W qs) :
    Calls Try.prog 15 #[MG m.k m.f m.t m.lo m.hi A ps.length c, MG m.k m.f m.t m.lo m.hi A2 qs.length c2] W fun e w' => e = .returned (.bool true) ∧ Sat W w' [] :=
  (EqualW W m.k m.f m.t m.lo m.hi A c ps m.k m.f m.t m.lo m.hi A2 c2 qs hR (by omega) hR2 (by omega) hB hB2).mono fun e w' ⟨b, he, hb, hS⟩ => by
    obtain rfl : b = true := hb.2 (by rw [hp, hq])
    exact ⟨he, hS⟩
theorem Eq_zero : Calls Try.prog 15 #[MG 0 0 0 0 0 none 0 0, MG 0 0 0 0 0 none 0 0] W fun e w' => e = .returned (.bool true) ∧ Sat W w' [] := by
  have hr : Rd W 2 (.slice none ([] : List PartW).length 0) ([] : List PartW).length (([] : List PartW).flatMap encW) := ⟨none, 0, rfl, Nat.le_refl _, rfl, .inl rfl⟩
  exact Eq_yes W ⟨0, 0, 0, 0, 0, []⟩ none 0 [] none 0 [] rfl rfl hr (by simp) hr (by simp) (fun p hp => by cases hp) (fun p hp => by cases hp)
theorem Eq_dec (k f t lo hi k2 f2 t2 lo2 hi2 : Int) (ho : okV (mv k f t lo hi ps)) (ho2 : okV (mv k2 f2 t2 lo2 hi2 qs)) (hR : Rd W 2 (.slice A ps.length c) ps.length (ps.flatMap encW)) (hlen : ps.length ≤ 1000000000000) (hR2 : Rd W 2 (.slice A2 qs.length c2) qs.length (qs.flatMap encW)) (hlen2 : qs.length ≤ 1000000000000) (hB : BodW W ps) (hB2 : BodW W qs) :
    Calls Try.prog 15 #[MG k f t lo hi A ps.length c, MG k2 f2 t2 lo2 hi2 A2 qs.length c2] W fun e w' => e = .returned (.bool (decide (mailB (mv k f t lo hi ps) = mailB (mv k2 f2 t2 lo2 hi2 qs)))) ∧ Sat W w' [] :=
  (EqualW W k f t lo hi A c ps k2 f2 t2 lo2 hi2 A2 c2 qs hR (by omega) hR2 (by omega) hB hB2).mono fun e w' ⟨b, he, hb, hS⟩ => by
    obtain rfl : b = decide (mailB (mv k f t lo hi ps) = mailB (mv k2 f2 t2 lo2 hi2 qs)) := by
      rw [Bool.eq_iff_iff, hb, decide_eq_true_eq]
      constructor
      · intro h; exact congrArg mailB h
      · intro h
        have h1 := gP_back ho
        have h2 := gP_back ho2
        rw [h, h2] at h1
        exact (Option.some.inj h1).symm
    exact ⟨he, hS⟩
end
theorem BodW.sb {W w : World} {L : List As} {ps : List PartW} {n : Nat} (s : Sat W w (SB ps :: L)) (hl : ∀ p ∈ ps, p.b.length ≤ n) (hn : n ≤ 1000000000000) : BodW w ps := BodW.of s (fun p hp => by have := hl p hp; omega)
theorem mailB_le {k f t lo hi : Int} {ps : List PartW} (hF : fc k f t lo hi ps) (hz : partsZ ps ≤ 1000000000000) : (mailB (mv k f t lo hi ps)).length ≤ 54 + partsZ ps := by
  obtain ⟨h1, h2, h3, h4, h5, h6, h7⟩ := hF
  have hpz := partsZ_len ps
  have hcs := goodC_in h7
  unfold Wm.Itv at h6
  simp only [List.length_map] at h6
  have g1 := partsB_take hcs (by omega) ps.length
  rw [List.take_length] at g1
  have g2 := headB_len (k := k) (f := f) (t := t) (lo := lo) (hi := hi) (ps := ps.map PartW.val) (by omega) (by omega) (by omega) (by omega) (by omega) (by simp; omega)
  unfold mailB
  rw [List.length_append]
  show (headB ⟨k, f, t, lo, hi, ps.map PartW.val⟩).length + (partsB (ps.map PartW.val)).length ≤ _
  omega
theorem fc_ok {k f t lo hi : Int} {ps : List PartW} (hF : fc k f t lo hi ps) (hz : partsZ ps ≤ 1000000000000) : okV (mv k f t lo hi ps) :=
  form_ok (formP.2 hF) (fun p hp => by
    obtain ⟨q, hq, rfl⟩ := List.mem_map.1 hp
    have := partsZ_mem hq
    show q.b.length ≤ _
    omega)
def mvS : MailV := ⟨1, 0, 1, 2, 3, [(4, [255, 0])]⟩
theorem mvS_B : mailB mvS = [1, 0, 1, 2, 3, 1, 4, 2, 255, 0] := by
  simp [mailB, headB, partsB, partB, mvS, numL_lt]
theorem mvS_F : FormV mvS := by
  refine ⟨by decide, by decide, by decide, by decide, by decide, .inl ⟨rfl, by decide, by decide, by decide⟩, fun i c hc => ?_⟩
  have hi := (List.getElem?_eq_some_iff.1 hc).1
  obtain rfl : i = 0 := by simp [mvS] at hi; exact hi
  simp [mvS] at hc
  subst hc
  exact ⟨by decide, by decide, fun d h => absurd h (by decide)⟩
theorem mvS_g : gP [1, 0, 1, 2, 3, 1, 4, 2, 255, 0] = some mvS := by
  rw [← mvS_B]
  exact gP_back (form_ok mvS_F (fun p hp => by simp [mvS] at hp; subst hp; simp))
theorem partsZ_le : ∀ ps : List PartW, partsZ ps ≤ 20 * (partsB (ps.map PartW.val)).length
  | [] => Nat.zero_le _
  | p :: ps => by
    have ih := partsZ_le ps
    have h1 := numL_pos p.cart.toNat
    have h2 := numL_pos p.b.length
    have e : partsB ((p :: ps).map PartW.val) = numL p.cart.toNat ++ (numL p.b.length ++ p.b) ++ partsB (ps.map PartW.val) := by simp [partsB, partB, PartW.val]
    have e2 : partsZ (p :: ps) = p.b.length + 20 + partsZ ps := by simp [partsZ]
    rw [e, e2]
    simp only [List.length_append]
    omega
theorem back_facts {bs : List UInt8} {m : MailV} {ps : List PartW} (hb : bs.length ≤ 10000000000) (hg : gP bs = some m) (hF : FormV m) (hv : ps.map PartW.val = m.ps) : fc m.k m.f m.t m.lo m.hi ps ∧ mailB (mv m.k m.f m.t m.lo m.hi ps) = bs ∧ partsZ ps ≤ 200000000000 := by
  have e : mv m.k m.f m.t m.lo m.hi ps = m := by unfold mv; rw [hv]
  have h1 := (gP_law (by omega) hg).1
  refine ⟨formP.1 (by rw [← e] at hF; exact hF), by rw [e, ← h1], ?_⟩
  have h2 := partsZ_le ps
  have h3 : (partsB (ps.map PartW.val)).length ≤ bs.length := by rw [hv, h1]; unfold mailB; rw [List.length_append]; omega
  omega
end Go.Proofs.Ytfbdcllbgfohdaa.Wk
