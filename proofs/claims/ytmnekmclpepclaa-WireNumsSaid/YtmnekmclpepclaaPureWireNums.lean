/- What is proved: wire.Num and wire.Size answer what the document's NumAt and Size answer, at every place of every list of bytes and for every number (barrowlaw05.WireNums). No condition. -/
import Derived.Test.YtmnekmclpepclaaPWireNumsx2
namespace Go.Proofs.Ytmnekmclpepclaa.Pure
open Go.RowKit Go.Proofs.Ytmnekmclpepclaa.PWireNums Go.Proofs.YtmnekmclpepclaaW.PrintWords Go.Proofs.YtmnekmclpepclaaW.PrintLast Go.Proofs.YtmnekmclpepclaaW.PrintMore

theorem i64_or_nat (a b : Nat) (ha : a < 9223372036854775808) (hb : b < 9223372036854775808) : Go.bits .or .i64 (a : Int) (b : Int) = ((a ||| b : Nat) : Int) := by
  have hx : a ||| b < 2 ^ 63 := Nat.or_lt_two_pow (by omega) (by omega)
  show IntKind.i64.wrap ((BitVec.ofInt 64 (a : Int) ||| BitVec.ofInt 64 (b : Int)).toNat : Int) = _
  rw [BitVec.toNat_or]
  have e1 : (BitVec.ofInt 64 (a : Int)).toNat = a := by simp; omega
  have e2 : (BitVec.ofInt 64 (b : Int)).toNat = b := by simp; omega
  rw [e1, e2]
  simp only [IntKind.wrap, IntKind.signed, IntKind.bits]
  generalize a ||| b = c at hx
  simp
  omega
theorem or_add (n c : Nat) (s : Nat) (hn : n < 2 ^ s) (h : c * 2 ^ s + n < 9223372036854775808) : Go.bits .or .i64 (n : Int) ((c * 2 ^ s : Nat) : Int) = ((n + c * 2 ^ s : Nat) : Int) := by
  rw [i64_or_nat _ _ (by omega) (by omega), Nat.or_comm, Nat.mul_comm c, ← Nat.two_pow_add_eq_or_of_lt hn, Nat.add_comm]
theorem wrap_small (x : Nat) (h : x < 9223372036854775808) : IntKind.i64.wrap (x : Int) = x := by
  simp only [IntKind.wrap, IntKind.signed, IntKind.bits]
  simp
  omega
theorem shl_add (c s : Nat) (hs : s ≤ 64) (h : c * 2 ^ s < 9223372036854775808) : shl .i64 (c : Int) (s : Int) = ((c * 2 ^ s : Nat) : Int) := by
  unfold shl
  have e : min (s : Int).toNat IntKind.i64.bits = s := by simp [IntKind.bits]; omega
  rw [e]
  have e2 : (c : Int) * 2 ^ s = ((c * 2 ^ s : Nat) : Int) := by simp
  rw [e2]
  exact wrap_small _ h

def Bytes (l : List Int) : Prop := ∀ x ∈ l, 0 ≤ x ∧ x ≤ 255
theorem bytes_of {l : List Int} (h : ∀ x ∈ l, (Lit.int .u8 x).wf = true) : Bytes l := fun x hx => by
  have := h x hx
  simp [Lit.wf, IntKind.min, IntKind.max, IntKind.signed, IntKind.bits] at this
  omega

theorem and127 (c : Nat) (h : c < 256) : Go.bits .and .u8 (c : Int) 127 = ((c % 128 : Nat) : Int) := by
  have e := u8_and_nat c 127 h (by decide)
  rw [show (127 : Nat) = 2 ^ 7 - 1 from rfl, Nat.and_two_pow_sub_one_eq_mod] at e
  exact e
def Pw (i : Nat) : Nat := 128 ^ i
theorem Pw_le (i : Nat) (h : i ≤ 9) : Pw i ≤ 9223372036854775808 := by
  have h1 : Pw i ≤ 128 ^ 9 := Nat.pow_le_pow_right (by decide) h
  have e : (128 : Nat) ^ 9 = 9223372036854775808 := by decide
  exact e ▸ h1
theorem Pw_lt8 (i : Nat) (h : i ≤ 8) : Pw i < 9223372036854775808 := by
  have h1 : Pw i ≤ 128 ^ 8 := Nat.pow_le_pow_right (by decide) h
  exact Nat.lt_of_le_of_lt h1 (by decide)
theorem Pw_succ (i : Nat) : Pw (i + 1) = Pw i * 128 := Nat.pow_succ ..
theorem two_Pw (i : Nat) : (2 : Nat) ^ (7 * i) = Pw i := by unfold Pw; rw [Nat.pow_mul]
theorem Pw_zero : Pw 0 = 1 := rfl
attribute [irreducible] Pw
theorem part_lt (x n P : Nat) (hx : x ≤ 127) (hn : n < P) : x * P + n < P * 128 := by
  have : x * P ≤ 127 * P := Nat.mul_le_mul_right _ hx
  omega
theorem wrap_nat (x : Nat) (h : x < 9223372036854775808) : wrap64 (x : Int) = x := by unfold wrap64; omega
set_option maxHeartbeats 1000000 in
/-- One round of both readings, and all that follow. -/
theorem both (b : List Int) (hb : Bytes b) (hl : b.length ≤ 140737488355328) (at_ : Nat) (ha : at_ ≤ b.length) (d : Nat) :
    ∀ (i : Nat) (n : Nat), i + d = 9 → n < Pw i → ∃ r, ∀ k k', d < k → d + 1 < k' → wire_getNum.l0 k b (at_ : Int) (n : Int) (i : Int) = some r ∧
      barrowref05_ReadNum.l0 k' b (at_ : Int) (n : Int) (((Pw (min i 8) : Nat)) : Int) (i : Int) = some r := by
  induction d with
  | zero =>
    intro i n hi _
    obtain rfl : i = 9 := by omega
    refine ⟨(0, 0, 51), fun k k' hk hk' => ?_⟩
    obtain ⟨k, rfl⟩ : ∃ m, k = m + 1 := ⟨k - 1, by omega⟩
    obtain ⟨k', rfl⟩ : ∃ m, k' = m + 1 := ⟨k' - 1, by omega⟩
    simp only [wire_getNum.l0, barrowref05_ReadNum.l0]
    exact ⟨by rw [if_neg (by decide)], by rw [if_neg (by decide)]⟩
  | succ d ih =>
    intro i n hi hn
    have hi9 : i < 9 := by omega
    have w0 : Aside0 (wrap64 ((at_ : Int) + (i : Int)) = (at_ : Int) + i) := ⟨by unfold wrap64; omega⟩
    have hpow := Pw_le (i + 1) (by omega)
    have hps : Pw (i + 1) = Pw i * 128 := Pw_succ i
    by_cases hs : at_ + i ≥ b.length
    · refine ⟨(0, 0, 50), fun k k' hk hk' => ?_⟩
      obtain ⟨k, rfl⟩ : ∃ m, k = m + 1 := ⟨k - 1, by omega⟩
      obtain ⟨k', rfl⟩ : ∃ m, k' = m + 1 := ⟨k' - 1, by omega⟩
      simp only [wire_getNum.l0, barrowref05_ReadNum.l0, w0.out]
      exact ⟨by rw [if_pos (by omega), if_pos (by omega)], by rw [if_pos (by omega), if_pos (by omega)]⟩
    · have hr := hb (rd b ((at_ : Int) + i)) (by simp only [rd]; rw [List.getD_eq_getElem?_getD, List.getElem?_eq_getElem (by omega)]; exact List.getElem_mem _)
      obtain ⟨c, hc⟩ := Int.eq_ofNat_of_zero_le hr.1
      have hc255 : c ≤ 255 := by omega
      have w1 : Aside0 (wrap64 (c : Int) = c) := ⟨by unfold wrap64; omega⟩
      have hand : Aside0 (Go.bits .and .u8 (c : Int) 127 = ((c % 128 : Nat) : Int)) := ⟨and127 c (by omega)⟩
      have w2 : Aside0 (wrap64 ((c % 128 : Nat) : Int) = ((c % 128 : Nat) : Int)) := ⟨by unfold wrap64; omega⟩
      have w3 : Aside0 (wrap64 (7 * (i : Int)) = 7 * i) := ⟨by unfold wrap64; omega⟩
      have h128 : (2 : Nat) ^ (7 * i) = Pw i := two_Pw i
      have hcm : c % 128 * Pw i + n < Pw (i + 1) := by
        rw [hps]
        exact part_lt (c % 128) n (Pw i) (by omega) hn
      have hlim : c % 128 * Pw i + n < 9223372036854775808 := Nat.lt_of_lt_of_le hcm hpow
      have hlim2 : c % 128 * Pw i < 9223372036854775808 := Nat.lt_of_le_of_lt (Nat.le_add_right _ _) hlim
      have hshl : Aside0 (shl .i64 ((c % 128 : Nat) : Int) (7 * (i : Int)) = ((c % 128 * 2 ^ (7 * i) : Nat) : Int)) := Aside0.mk <| 
        shl_add (c % 128) (7 * i) (by omega) (by rw [h128]; exact hlim2)
      have hor : Aside0 (Go.bits .or .i64 (n : Int) ((c % 128 * 2 ^ (7 * i) : Nat) : Int) = ((n + c % 128 * Pw i : Nat) : Int)) := Aside0.mk <| by
        rw [or_add n (c % 128) (7 * i) (by rw [h128]; exact hn) (by rw [h128]; exact hlim), h128]
      have hmin : min i 8 = i := by omega
      by_cases h1 : c < 128
      · have hmod : c % 128 = c := by omega
        rw [hmod] at hand w2 hshl hor hcm hlim hlim2
        by_cases h2 : c = 0 ∧ i > 0
        · obtain ⟨rfl, hi0⟩ := h2
          refine ⟨(0, 0, 51), fun k k' hk hk' => ?_⟩
          obtain ⟨k, rfl⟩ : ∃ m, k = m + 1 := ⟨k - 1, by omega⟩
          obtain ⟨k', rfl⟩ : ∃ m, k' = m + 2 := ⟨k' - 2, by omega⟩
          simp only [wire_getNum.l0, barrowref05_ReadNum.l0, barrowref05_ReadNum.j1, w0.out, hc, w1.out, hand.out, w3.out, hshl.out, hor.out]
          constructor
          · rw [if_pos (by omega), if_neg (by omega), if_pos (by omega), if_pos (by omega), if_pos (by omega), if_pos (by decide), if_pos (by rfl), if_pos (by omega)]
          · rw [if_pos (by omega), if_neg (by omega), if_pos (by omega), if_pos (by omega), if_pos (by decide), if_pos (by rfl), if_pos (by simp; omega)]
        · refine ⟨(((n + c * Pw i : Nat) : Int), (at_ : Int) + i + 1, 0), fun k k' hk hk' => ?_⟩
          obtain ⟨k, rfl⟩ : ∃ m, k = m + 1 := ⟨k - 1, by omega⟩
          obtain ⟨k', rfl⟩ : ∃ m, k' = m + 2 := ⟨k' - 2, by omega⟩
          have w4 : Aside0 (wrap64 ((at_ : Int) + i + 1) = (at_ : Int) + i + 1) := ⟨by unfold wrap64; omega⟩
          have em : (c : Int) * ((Pw i : Nat) : Int) = ((c * Pw i : Nat) : Int) := by simp
          have hA : Aside0 (wrap64 ((c : Int) * ((Pw i : Nat) : Int)) = ((c * Pw i : Nat) : Int)) := Aside0.mk <| by
            rw [em]; exact wrap_nat _ hlim2
          have hB : Aside0 (wrap64 ((n : Int) + ((c * Pw i : Nat) : Int)) = ((n + c * Pw i : Nat) : Int)) := ⟨wrap_nat (n + c * Pw i) (by rw [Nat.add_comm]; exact hlim)⟩
          simp only [wire_getNum.l0, barrowref05_ReadNum.l0, barrowref05_ReadNum.j1, w0.out, hc, w1.out, hand.out, w3.out, hshl.out, hor.out, w4.out, hmin, hA.out, hB.out]
          constructor
          · rw [if_pos (by omega), if_neg (by omega), if_pos (by omega), if_pos (by omega), if_pos (by omega), if_pos (by omega)]
            by_cases h0 : (c : Int) = 0
            · rw [if_pos h0, if_neg (by omega)]
            · rw [if_neg h0]
          · rw [if_pos (by omega), if_neg (by omega), if_pos (by omega), if_pos (by omega), if_pos (by omega)]
            by_cases h0 : (c : Int) = 0
            · rw [if_pos h0, if_neg (by simp; omega)]
            · rw [if_neg h0, if_neg (by decide)]
      · have hmod : c % 128 = c - 128 := by omega
        rw [hmod] at hand w2 hshl hor hcm hlim hlim2
        obtain ⟨r, hr2⟩ := ih (i + 1) (n + (c - 128) * Pw i) (by omega) (by rw [Nat.add_comm]; exact hcm)
        refine ⟨r, fun k k' hk hk' => ?_⟩
        obtain ⟨k, rfl⟩ : ∃ m, k = m + 1 := ⟨k - 1, by omega⟩
        obtain ⟨k', rfl⟩ : ∃ m, k' = m + 1 := ⟨k' - 1, by omega⟩
        obtain ⟨g1, g2⟩ := hr2 k k' (by omega) (by omega)
        have w4 : Aside0 (wrap64 ((i : Int) + 1) = ((i + 1 : Nat) : Int)) := ⟨by unfold wrap64; omega⟩
        have w5 : Aside0 (wrap64 ((c : Int) - 128) = ((c - 128 : Nat) : Int)) := ⟨by unfold wrap64; omega⟩
        have em : ((c - 128 : Nat) : Int) * ((Pw i : Nat) : Int) = (((c - 128) * Pw i : Nat) : Int) := by simp
        have hA : Aside0 (wrap64 (((c - 128 : Nat) : Int) * ((Pw i : Nat) : Int)) = (((c - 128) * Pw i : Nat) : Int)) := Aside0.mk <| by
          rw [em]; exact wrap_nat _ hlim2
        have hB : Aside0 (wrap64 ((n : Int) + (((c - 128) * Pw i : Nat) : Int)) = ((n + (c - 128) * Pw i : Nat) : Int)) := ⟨wrap_nat (n + (c - 128) * Pw i) (by rw [Nat.add_comm]; exact hlim)⟩
        simp only [wire_getNum.l0, barrowref05_ReadNum.l0, w0.out, hc, w1.out, hand.out, w2.out, w3.out, hshl.out, hor.out, w4.out, hmin, w5.out, hA.out, hB.out]
        constructor
        · rw [if_pos (by omega), if_neg (by omega), if_pos (by omega), if_pos (by omega), if_pos (by omega), if_neg (by omega)]
          exact g1
        · rw [if_pos (by omega), if_neg (by omega), if_pos (by omega), if_pos (by omega), if_neg (by omega)]
          by_cases h8 : i < 8
          · rw [if_pos (by omega)]
            have hW : Aside0 (wrap64 (((Pw i : Nat) : Int) * 128) = ((Pw (i + 1) : Nat) : Int)) := Aside0.mk <| by
              have e : ((Pw i : Nat) : Int) * 128 = ((Pw (i + 1) : Nat) : Int) := by rw [hps]; simp
              rw [e]; exact wrap_nat _ (Pw_lt8 (i + 1) (by omega))
            rw [hW.out]
            rw [show min (i + 1) 8 = i + 1 from by omega] at g2
            exact g2
          · rw [if_neg (by omega)]
            obtain rfl : i = 8 := by omega
            exact g2

theorem both_num (b : List Int) (hb : Bytes b) (hl : b.length ≤ 140737488355328) (at_ : Int) :
    ∃ r, ∀ k, 11 < k → wire_Num.f k b at_ = some r ∧ barrowref05_NumAt.f k b at_ = some r := by
  by_cases h : at_ < 0
  · exact ⟨(0, 0, 2), fun k _ => by unfold wire_Num.f barrowref05_NumAt.f; rw [if_pos h, if_pos h]; exact ⟨rfl, rfl⟩⟩
  · by_cases h2 : at_ > (b.length : Int)
    · exact ⟨(0, 0, 2), fun k _ => by unfold wire_Num.f barrowref05_NumAt.f; rw [if_neg h, if_neg h, if_pos h2, if_pos h2]; exact ⟨rfl, rfl⟩⟩
    · obtain ⟨a, rfl⟩ := Int.eq_ofNat_of_zero_le (show 0 ≤ at_ by omega)
      obtain ⟨r, hr⟩ := both b hb hl a (by omega) 9 0 0 (by omega) (by rw [Pw_zero]; decide)
      refine ⟨r, fun k hk => ?_⟩
      obtain ⟨g1, g2⟩ := hr k k (by omega) (by omega)
      have g1' : wire_getNum.f k b (a : Int) = some r := g1
      have g2' : barrowref05_ReadNum.f k b (a : Int) = some r := by rw [show min 0 8 = 0 from rfl, Pw_zero] at g2; exact g2
      unfold wire_Num.f barrowref05_NumAt.f
      rw [if_neg h, if_neg h, if_neg h2, if_neg h2, g1', g2']
      exact ⟨rfl, rfl⟩

theorem both_size (m : Nat) : ∀ (n : Nat) (l : List Int) (k k' : Nat), n < 9223372036854775808 → n < 128 ^ m → 0 < m → l.length + m ≤ 20000 → m ≤ k → m ≤ k' →
    ∃ out, wire_Size.l0 k (n : Int) ((l.length : Int) + 1) = some (out.length : Int) ∧ barrowref05_Num.l0 k' (n : Int) l = some out := by
  induction m with
  | zero => intro n l k k' _ _ h; omega
  | succ m ih =>
    intro n l k k' hn hm _ hlm hk hk'
    obtain ⟨k, rfl⟩ : ∃ m, k = m + 1 := ⟨k - 1, by omega⟩
    obtain ⟨k', rfl⟩ : ∃ m, k' = m + 1 := ⟨k' - 1, by omega⟩
    by_cases h : n < 128
    · refine ⟨l ++ [(n : Int) % 256], ?_, ?_⟩
      · simp only [wire_Size.l0]; rw [if_neg (by omega)]; simp
      · simp only [barrowref05_Num.l0]; rw [if_neg (by omega), if_pos (by omega)]
    · have ht : wrap64 (Int.tdiv (n : Int) 128) = ((n / 128 : Nat) : Int) := by
        have : Int.tdiv (n : Int) 128 = (n : Int) / 128 := Int.tdiv_eq_ediv_of_nonneg (by omega)
        rw [this]; unfold wrap64; omega
      have hmm : m ≠ 0 := by intro h0; subst h0; simp at hm; omega
      have hps : (128 : Nat) ^ (m + 1) = 128 ^ m * 128 := Nat.pow_succ ..
      obtain ⟨out, g1, g2⟩ := ih (n / 128) (l ++ [(wrap64 (128 + (Int.tmod (n : Int) 128))) % 256]) k k' (by omega) (by omega) (by omega) (by simp; omega) (by omega) (by omega)
      refine ⟨out, ?_, ?_⟩
      · simp only [wire_Size.l0]
        rw [if_pos (by omega), ht]
        have hw : wrap64 ((l.length : Int) + 1 + 1) = (((l ++ [(wrap64 (128 + (Int.tmod (n : Int) 128))) % 256]).length : Int) + 1) := by
          simp only [List.length_append, List.length_cons, List.length_nil]; unfold wrap64; omega
        rw [hw]; exact g1
      · simp only [barrowref05_Num.l0]
        rw [if_pos (by omega), if_pos (by omega), ht]; exact g2
theorem both_sizes (n : Int) (hn : n ≤ 9223372036854775807) : ∃ r, ∀ k, 10 ≤ k → wire_Size.f k n = some r ∧ barrowref05_Size.f k n = some r := by
  by_cases h : n < 0
  · exact ⟨0, fun k _ => by unfold wire_Size.f barrowref05_Size.f; rw [if_pos h, if_pos h]; exact ⟨rfl, rfl⟩⟩
  · obtain ⟨a, rfl⟩ := Int.eq_ofNat_of_zero_le (show 0 ≤ n by omega)
    have h10 : (a : Nat) < 128 ^ 10 := by
      have e : (128 : Nat) ^ 10 = 1180591620717411303424 := by decide
      omega
    obtain ⟨out, g1, g2⟩ := both_size 10 a [] 10 10 (by omega) h10 (by omega) (by simp) (by omega) (by omega)
    refine ⟨out.length, fun k hk => ?_⟩
    have s1 : wire_Size.f 10 (a : Int) = some (out.length : Int) := by unfold wire_Size.f; rw [if_neg h]; simpa using g1
    have s2 : barrowref05_Size.f 10 (a : Int) = some (out.length : Int) := by
      unfold barrowref05_Size.f; rw [if_neg h]
      have : barrowref05_Num.f 10 (a : Int) = some out := g2
      rw [this]; rfl
    exact ⟨at_rounds (wire_Size.mono _) hk s1, at_rounds (barrowref05_Size.mono _) hk s2⟩

theorem fixed_ (k : Nat) (hk : 11 < k) : wire_Num.f k [172, 2] 0 = some (300, 2, 0) := by
  refine at_rounds (wire_Num.mono _ _) (Nat.le_of_lt hk) ?_
  decide +kernel

theorem WireNums : barrowlaw05_WireNums.Pure := by
  intro l a n _ hl hwl _ hwn
  have hb := bytes_of hwl
  have hn : n ≤ 9223372036854775807 := by
    simp [Lit.wf, IntKind.min, IntKind.max, IntKind.signed, IntKind.bits] at hwn
    omega
  obtain ⟨r, hr⟩ := both_num l hb (by omega) a
  obtain ⟨s, hs⟩ := both_sizes n hn
  refine ⟨13, ?_⟩
  unfold barrowlaw05_WireNums.f
  rw [fixed_ 13 (by omega)]
  simp only [Option.bind_some]
  rw [if_pos (by decide), if_pos (by decide)]
  simp only [barrowlaw05_WireNums.j0]
  rw [if_neg (by decide), (hr 12 (by omega)).1, (hr 12 (by omega)).2]
  simp only [Option.bind_some, if_true]
  rw [(hs 12 (by omega)).1, (hs 12 (by omega)).2]
  simp

end Go.Proofs.Ytmnekmclpepclaa.Pure
