/- Frames as bytes: plain mathematics of joining and splitting them. No program, no condition. -/
import Derived.Test.YtmnekmclpepclaaPWire
import Derived.Test.YtmnekmclpepclaaK22
set_option linter.unusedVariables false
set_option linter.unusedSimpArgs false
namespace Go.Proofs.Ytmnekmclpepclaa.Wk
open Go Go.RowKit Go.Proofs.Ytmnekmclpepclaa Go.Proofs.Ytmnekmclpepclaa.K
/-! frames one behind the other -/
/-- Frames as bytes. -/
def jn (l : List (List UInt8)) : List UInt8 := l.flatMap fun b => numL b.length ++ b
theorem jn_snoc (l : List (List UInt8)) (b : List UInt8) : jn (l ++ [b]) = jn l ++ (numL b.length ++ b) := by simp [jn]
theorem jn_cons (b : List UInt8) (l : List (List UInt8)) : jn (b :: l) = numL b.length ++ b ++ jn l := by simp [jn]
/-- How much frames weigh. -/
def bulk (l : List (List UInt8)) : Nat := (l.map fun b => b.length + 1).sum
theorem bulk_nil : bulk [] = 0 := rfl
theorem bulk_cons (b : List UInt8) (l : List (List UInt8)) : bulk (b :: l) = b.length + 1 + bulk l := by simp [bulk]
theorem bulk_snoc (l : List (List UInt8)) (b : List UInt8) : bulk (l ++ [b]) = bulk l + b.length + 1 := by simp [bulk]; omega
theorem bulk_append (l m : List (List UInt8)) : bulk (l ++ m) = bulk l + bulk m := by simp [bulk]
theorem bulk_len : ∀ l : List (List UInt8), l.length ≤ bulk l
  | [] => Nat.le_refl _
  | b :: l => by have := bulk_len l; rw [bulk_cons]; simp; omega
theorem numL_len9 {n : Nat} (h : n ≤ 9223372036854775807) : (numL n).length ≤ 9 := numL_nine h
theorem jn_len : ∀ l : List (List UInt8), bulk l ≤ 9223372036854775807 → (jn l).length ≤ 9 * bulk l
  | [], _ => Nat.le_refl _
  | b :: l, h => by
    rw [bulk_cons] at h ⊢
    have h1 := jn_len l (by omega)
    have h2 := numL_nine (n := b.length) (by omega)
    rw [jn_cons]; simp; omega
/-- The frames from a place on: the error, the frames. -/
def sp (bs : List UInt8) (at_ : Nat) : Nat × List (List UInt8) :=
  if h : at_ < bs.length ∧ (rdA bs at_).2.2 = 0 ∧ (rdA bs at_).1 ≤ bs.length - (rdA bs at_).2.1 then
    if (sp bs ((rdA bs at_).2.1 + (rdA bs at_).1)).1 = 0 then (0, (bs.drop (rdA bs at_).2.1).take (rdA bs at_).1 :: (sp bs ((rdA bs at_).2.1 + (rdA bs at_).1)).2)
    else ((sp bs ((rdA bs at_).2.1 + (rdA bs at_).1)).1, [])
  else if at_ < bs.length then (if (rdA bs at_).2.2 ≠ 0 then ((rdA bs at_).2.2, []) else (50, [])) else (0, [])
termination_by bs.length - at_
decreasing_by
  all_goals
    have := rdA_ok h.2.1
    have := h.1
    omega
theorem sp_end {bs : List UInt8} {i : Nat} (h : bs.length ≤ i) : sp bs i = (0, []) := by
  rw [sp, dif_neg (by omega), if_neg (by omega)]
theorem sp_err {bs : List UInt8} {i : Nat} (h : i < bs.length) (he : (rdA bs i).2.2 ≠ 0) : sp bs i = ((rdA bs i).2.2, []) := by
  rw [sp, dif_neg (by simp [he]), if_pos h, if_pos he]
theorem sp_short {bs : List UInt8} {i : Nat} (h : i < bs.length) (he : (rdA bs i).2.2 = 0) (hn : bs.length - (rdA bs i).2.1 < (rdA bs i).1) : sp bs i = (50, []) := by
  rw [sp, dif_neg (by omega), if_pos h, if_neg (by simp [he])]
theorem sp_step {bs : List UInt8} {i : Nat} (h : i < bs.length) (he : (rdA bs i).2.2 = 0) (hn : (rdA bs i).1 ≤ bs.length - (rdA bs i).2.1) : sp bs i =
    if (sp bs ((rdA bs i).2.1 + (rdA bs i).1)).1 = 0 then (0, (bs.drop (rdA bs i).2.1).take (rdA bs i).1 :: (sp bs ((rdA bs i).2.1 + (rdA bs i).1)).2)
    else ((sp bs ((rdA bs i).2.1 + (rdA bs i).1)).1, []) := by
  rw [sp, dif_pos ⟨h, he, hn⟩]
/-- What came ahead. -/
def lf (done : List (List UInt8)) (q : Nat × List (List UInt8)) : Nat × List (List UInt8) := if q.1 = 0 then (0, done ++ q.2) else (q.1, [])
theorem sp_begin (bs : List UInt8) : sp bs 0 = lf [] (sp bs 0) := by
  unfold lf
  by_cases h : (sp bs 0).1 = 0
  · rw [if_pos h]; exact Prod.ext h rfl
  · rw [if_neg h]
    refine Prod.ext rfl ?_
    rw [sp] at h ⊢
    revert h
    (repeat' split) <;> simp_all
theorem lf_step {bs : List UInt8} {i : Nat} {done : List (List UInt8)} (h : i < bs.length) (he : (rdA bs i).2.2 = 0) (hn : (rdA bs i).1 ≤ bs.length - (rdA bs i).2.1) :
    lf done (sp bs i) = lf (done ++ [(bs.drop (rdA bs i).2.1).take (rdA bs i).1]) (sp bs ((rdA bs i).2.1 + (rdA bs i).1)) := by
  rw [sp_step h he hn]
  unfold lf
  by_cases hq : (sp bs ((rdA bs i).2.1 + (rdA bs i).1)).1 = 0
  · simp [hq]
  · simp [hq]
theorem lf_end {bs : List UInt8} {i : Nat} {done : List (List UInt8)} (h : bs.length ≤ i) : lf done (sp bs i) = (0, done) := by rw [sp_end h]; simp [lf]
theorem lf_err {bs : List UInt8} {i : Nat} {done : List (List UInt8)} (h : i < bs.length) (he : (rdA bs i).2.2 ≠ 0) : lf done (sp bs i) = ((rdA bs i).2.2, []) := by
  rw [sp_err h he]
  exact if_neg he
theorem lf_short {bs : List UInt8} {i : Nat} {done : List (List UInt8)} (h : i < bs.length) (he : (rdA bs i).2.2 = 0) (hn : bs.length - (rdA bs i).2.1 < (rdA bs i).1) : lf done (sp bs i) = (50, []) := by
  rw [sp_short h he hn]; simp [lf]
/-- What is split joins to the same. -/
theorem sp_jn (bs : List UInt8) (i : Nat) (hi : i ≤ bs.length) (h : (sp bs i).1 = 0) : jn (sp bs i).2 = bs.drop i := by
  by_cases h1 : i < bs.length
  · by_cases he : (rdA bs i).2.2 = 0
    · by_cases hn : (rdA bs i).1 ≤ bs.length - (rdA bs i).2.1
      · obtain ⟨k1, k2, k3, k4, k5, k6⟩ := rdA_ok he
        rw [sp_step h1 he hn] at h ⊢
        by_cases hq : (sp bs ((rdA bs i).2.1 + (rdA bs i).1)).1 = 0
        · rw [if_pos hq]
          have ih := sp_jn bs ((rdA bs i).2.1 + (rdA bs i).1) (by omega) hq
          simp only [jn_cons, ih]
          have hl : ((bs.drop (rdA bs i).2.1).take (rdA bs i).1).length = (rdA bs i).1 := by simp; omega
          rw [hl, ← k5, List.append_assoc, ← List.drop_drop, List.take_append_drop]
          have : bs.drop (rdA bs i).2.1 = (bs.drop i).drop ((rdA bs i).2.1 - i) := by rw [List.drop_drop]; congr 1; omega
          rw [this, List.take_append_drop]
        · rw [if_neg hq] at h; exact absurd h hq
      · rw [sp_short h1 he (by omega)] at h; cases h
    · rw [sp_err h1 he] at h; exact absurd h he
  · rw [sp_end (by omega)]
    simp [jn, List.drop_eq_nil_of_le (show bs.length ≤ i by omega)]
termination_by bs.length - i
decreasing_by omega
/-- The frames that were joined. -/
theorem sp_of : ∀ (pre : List UInt8) (l : List (List UInt8)) (post : List UInt8), bulk l ≤ 9223372036854775807 → sp (pre ++ jn l ++ post) pre.length = if (sp (pre ++ jn l ++ post) (pre ++ jn l).length).1 = 0 then (0, l ++ (sp (pre ++ jn l ++ post) (pre ++ jn l).length).2) else ((sp (pre ++ jn l ++ post) (pre ++ jn l).length).1, [])
  | pre, [], post, _ => by
    have e : pre ++ jn [] ++ post = pre ++ post := by simp [jn]
    have e2 : (pre ++ jn []).length = pre.length := by simp [jn]
    rw [e, e2]
    by_cases h : (sp (pre ++ post) pre.length).1 = 0
    · rw [if_pos h]; exact Prod.ext h rfl
    · rw [if_neg h]
      refine Prod.ext rfl ?_
      rw [sp] at h ⊢
      revert h
      (repeat' split) <;> simp_all
  | pre, b :: l, post, h => by
    rw [bulk_cons] at h
    have hb : b.length ≤ 9223372036854775807 := by omega
    have ih := sp_of (pre ++ numL b.length ++ b) l post (by omega)
    have e : pre ++ jn (b :: l) ++ post = pre ++ numL b.length ++ b ++ jn l ++ post := by simp [jn_cons]
    have e1 : (pre ++ jn (b :: l)).length = (pre ++ numL b.length ++ b ++ jn l).length := by simp [jn_cons]
    have hr := rdA_of pre (b ++ jn l ++ post) b.length hb
    have e3 : pre ++ numL b.length ++ (b ++ jn l ++ post) = pre ++ numL b.length ++ b ++ jn l ++ post := by simp
    rw [e3] at hr
    rw [e, e1]
    generalize hX : pre ++ numL b.length ++ b ++ jn l ++ post = X at *
    have hp := numL_pos b.length
    have hXl : X.length = pre.length + (numL b.length).length + b.length + (jn l).length + post.length := by rw [← hX]; simp; omega
    have hd : (X.drop (pre.length + (numL b.length).length)).take b.length = b := by
      rw [← hX, show pre ++ numL b.length ++ b ++ jn l ++ post = (pre ++ numL b.length) ++ (b ++ (jn l ++ post)) from by simp, show pre.length + (numL b.length).length = (pre ++ numL b.length).length from by simp, List.drop_left, List.take_left]
    rw [sp_step (by omega) (by rw [hr]) (by rw [hr]; show b.length ≤ X.length - (pre.length + (numL b.length).length); omega), hr]
    dsimp only
    rw [hd, show pre.length + (numL b.length).length + b.length = (pre ++ numL b.length ++ b).length from by simp; omega, ih]
    generalize (pre ++ numL b.length ++ b ++ jn l).length = z
    by_cases hq : (sp X z).1 = 0
    · simp [hq]
    · simp [hq]
theorem sp_jn_back (l : List (List UInt8)) (h : bulk l ≤ 9223372036854775807) : sp (jn l) 0 = (0, l) := by
  have := sp_of [] l [] h
  simp only [List.nil_append, List.append_nil, List.length_nil] at this
  rw [this, sp_end (Nat.le_refl _)]
  simp
/-- No more frames than bytes. -/
theorem sp_bulk (bs : List UInt8) (i : Nat) (hi : i ≤ bs.length) (h : (sp bs i).1 = 0) : bulk (sp bs i).2 ≤ bs.length - i := by
  have e := sp_jn bs i hi h
  have e2 := congrArg List.length e
  have h3 : ∀ l : List (List UInt8), bulk l ≤ (jn l).length := fun l => by
    induction l with
    | nil => exact Nat.le_refl _
    | cons b l ih => rw [bulk_cons, jn_cons]; have := numL_pos b.length; simp; omega
  have := h3 (sp bs i).2
  simp at e2
  omega
/-- A number that may not be above mo. -/
def upR (bs : List UInt8) (i : Nat) (mo : Int) : Nat × Nat × Nat := if (rdA bs i).2.2 ≠ 0 then (0, 0, (rdA bs i).2.2) else if mo < ((rdA bs i).1 : Int) then (0, 0, 51) else ((rdA bs i).1, (rdA bs i).2.1, 0)
theorem upR_err {bs : List UInt8} {i : Nat} {mo : Int} (h : (rdA bs i).2.2 ≠ 0) : upR bs i mo = (0, 0, (rdA bs i).2.2) := if_pos h
theorem upR_wide {bs : List UInt8} {i : Nat} {mo : Int} (h : (rdA bs i).2.2 = 0) (h2 : mo < ((rdA bs i).1 : Int)) : upR bs i mo = (0, 0, 51) := by unfold upR; rw [if_neg (by omega), if_pos h2]
theorem upR_ok {bs : List UInt8} {i : Nat} {mo : Int} (h : (rdA bs i).2.2 = 0) (h2 : ((rdA bs i).1 : Int) ≤ mo) : upR bs i mo = ((rdA bs i).1, (rdA bs i).2.1, 0) := by unfold upR; rw [if_neg (by omega), if_neg (by omega)]
theorem upR_law {bs : List UInt8} {i : Nat} {mo : Int} (hi : i ≤ bs.length) : (upR bs i mo).2.2 ≠ 0 ∨ ((upR bs i mo).2.2 = 0 ∧ i < (upR bs i mo).2.1 ∧ (upR bs i mo).2.1 ≤ bs.length ∧ (upR bs i mo).1 ≤ 9223372036854775807) := by
  unfold upR
  by_cases h : (rdA bs i).2.2 = 0
  · obtain ⟨k1, k2, k3, k4, k5, k6⟩ := rdA_ok h
    rw [if_neg (by omega)]
    split
    · simp
    · simp; omega
  · rw [if_pos h]; simp [h]
theorem upR_e {bs : List UInt8} {i : Nat} {mo : Int} : (upR bs i mo).2.2 ≤ 51 := by
  have := rdA_err bs i
  unfold upR
  (repeat' split) <;> simp_all <;> omega
/-- A piece: its bytes, the place behind it, the error. -/
def pcR (bs : List UInt8) (i : Nat) (mo : Int) : List UInt8 × Nat × Nat := if (upR bs i mo).2.2 ≠ 0 then ([], 0, (upR bs i mo).2.2) else if bs.length - (upR bs i mo).2.1 < (upR bs i mo).1 then ([], 0, 50) else ((bs.drop (upR bs i mo).2.1).take (upR bs i mo).1, (upR bs i mo).2.1 + (upR bs i mo).1, 0)
theorem pcR_err {bs : List UInt8} {i : Nat} {mo : Int} (h : (upR bs i mo).2.2 ≠ 0) : pcR bs i mo = ([], 0, (upR bs i mo).2.2) := if_pos h
theorem pcR_short {bs : List UInt8} {i : Nat} {mo : Int} (h : (upR bs i mo).2.2 = 0) (h2 : bs.length - (upR bs i mo).2.1 < (upR bs i mo).1) : pcR bs i mo = ([], 0, 50) := by unfold pcR; rw [if_neg (by omega), if_pos h2]
theorem pcR_ok {bs : List UInt8} {i : Nat} {mo : Int} (h : (upR bs i mo).2.2 = 0) (h2 : (upR bs i mo).1 ≤ bs.length - (upR bs i mo).2.1) : pcR bs i mo = ((bs.drop (upR bs i mo).2.1).take (upR bs i mo).1, (upR bs i mo).2.1 + (upR bs i mo).1, 0) := by unfold pcR; rw [if_neg (by omega), if_neg (by omega)]
theorem pcR_len {bs : List UInt8} {i : Nat} {mo : Int} : (pcR bs i mo).1.length ≤ bs.length := by
  unfold pcR
  (repeat' split)
  · simp
  · simp
  · simp; omega
theorem pcR_law {bs : List UInt8} {i : Nat} {mo : Int} (hi : i ≤ bs.length) : (pcR bs i mo).2.2 ≠ 0 ∨ ((pcR bs i mo).2.2 = 0 ∧ i < (pcR bs i mo).2.1 ∧ (pcR bs i mo).2.1 ≤ bs.length) := by
  unfold pcR
  rcases upR_law (mo := mo) hi with h | ⟨h, h1, h2, h3⟩
  · rw [if_pos h]; exact .inl h
  · rw [if_neg (by omega)]
    split
    · exact .inl (by simp)
    · exact .inr ⟨rfl, by show i < (upR bs i mo).2.1 + (upR bs i mo).1; omega, by show (upR bs i mo).2.1 + (upR bs i mo).1 ≤ bs.length; omega⟩
theorem pcR_e {bs : List UInt8} {i : Nat} {mo : Int} : (pcR bs i mo).2.2 ≤ 51 := by
  have := upR_e (bs := bs) (i := i) (mo := mo)
  unfold pcR
  (repeat' split) <;> simp_all
/-- A step of the frames by a piece of any length. -/
theorem lf_pc_err {bs : List UInt8} {i : Nat} {done : List (List UInt8)} (h : i < bs.length) (he : (pcR bs i 9223372036854775807).2.2 ≠ 0) : lf done (sp bs i) = ((pcR bs i 9223372036854775807).2.2, []) := by
  by_cases h0 : (rdA bs i).2.2 = 0
  · have hm := (rdA_ok h0).2.2.1
    have hu := upR_ok (mo := 9223372036854775807) h0 (by omega)
    by_cases h1 : (rdA bs i).1 ≤ bs.length - (rdA bs i).2.1
    · rw [pcR_ok (by rw [hu]) (by rw [hu]; exact h1)] at he; exact absurd rfl he
    · rw [pcR_short (by rw [hu]) (by rw [hu]; show bs.length - (rdA bs i).2.1 < (rdA bs i).1; omega), lf_short h h0 (by omega)]
  · rw [lf_err h h0, pcR_err (by rw [upR_err h0]; exact h0), upR_err h0]
theorem lf_pc_ok {bs : List UInt8} {i : Nat} {done : List (List UInt8)} (h : i < bs.length) (he : (pcR bs i 9223372036854775807).2.2 = 0) : lf done (sp bs i) = lf (done ++ [(pcR bs i 9223372036854775807).1]) (sp bs (pcR bs i 9223372036854775807).2.1) := by
  by_cases h0 : (rdA bs i).2.2 = 0
  · have hm := (rdA_ok h0).2.2.1
    have hu := upR_ok (mo := 9223372036854775807) h0 (by omega)
    by_cases h1 : (rdA bs i).1 ≤ bs.length - (rdA bs i).2.1
    · rw [pcR_ok (by rw [hu]) (by rw [hu]; exact h1), hu, lf_step h h0 h1]
    · rw [pcR_short (by rw [hu]) (by rw [hu]; show bs.length - (rdA bs i).2.1 < (rdA bs i).1; omega)] at he; cases he
  · rw [pcR_err (by rw [upR_err h0]; exact h0), upR_err h0] at he; exact absurd he h0
/-- A piece of what is read. -/
theorem piece_rd {w : World} {A : Option Addr} {c : Nat} {bs : List UInt8} (h : Rd w 1 (.slice A bs.length c) bs.length (bs.map bcell)) (i n : Nat) (hi : i + n ≤ bs.length) :
    Rd w 1 (.slice (cutA A c 1 i) ((bs.drop i).take n).length (c - i)) ((bs.drop i).take n).length (((bs.drop i).take n).map bcell) := by
  have h' := h.cut i (i + n) (by omega) hi
  have e : ((bs.drop i).take n).length = i + n - i := by simp; omega
  rw [e]
  have e2 : ((bs.map bcell).drop (i * 1)).take ((i + n - i) * 1) = ((bs.drop i).take n).map bcell := by
    rw [List.map_take, List.map_drop, Nat.mul_one, Nat.mul_one]; congr 1; omega
  rw [e2] at h'
  exact h'
theorem slice_nat {A : Option Addr} {c : Nat} {bs : List UInt8} {i j n : Nat} (hj : j = i + n) (hn : j ≤ bs.length) : (Value.slice (cutA A c 1 ((i : Int)).toNat) (((j : Int)).toNat - ((i : Int)).toNat) (c - ((i : Int)).toNat)) = .slice (cutA A c 1 i) ((bs.drop i).take n).length (c - i) := by
  subst hj
  have : ((bs.drop i).take n).length = n := by simp; omega
  rw [this]
  simp
  omega
def str (bs : List UInt8) : ByteArray := ⟨bs.toArray⟩
theorem str_list (bs : List UInt8) : (str bs).data.toList = bs := rfl
theorem str_size (bs : List UInt8) : (str bs).size = bs.length := rfl
theorem fr_snoc {fs : List FrD} {A : Option Addr} {c : Nat} {b : List UInt8} {n : Nat} (hn : n = b.length) : fs.map FrD.v ++ [Value.slice A n c] = (fs ++ [(FrD.mk A c b)]).map FrD.v := by subst hn; simp [FrD.v]
theorem fr_snocR {fs : List FrD} {A : Option Addr} {c e : Nat} {b : List UInt8} : fs.map (FrD.row e) ++ [row e 1 (.slice A b.length c) b.length (b.map bcell)] = (fs ++ [(FrD.mk A c b)]).map (FrD.row e) := by simp [FrD.row, FrD.v]
theorem frs_snoc {fs : List FrD} {A : Option Addr} {c : Nat} {b : List UInt8} : frs (fs ++ [(FrD.mk A c b)]) = frs fs ++ [b] := by simp [frs]
theorem frs_len {fs : List FrD} : (frs fs).length = fs.length := by simp [frs]
theorem frs_get {fs : List FrD} {i : Nat} {f : FrD} (h : fs[i]? = some f) : (frs fs)[i]? = some f.b := by simp [frs, h]
/-- A frame more. -/
theorem Sat.frSnoc {W w : World} {L : List As} {fs : List FrD} {A : Option Addr} {c n e : Nat} {b : List UInt8} {v : Value} {m : Nat} (hn : n = b.length) (s : Sat W w (row 22 1 v m (fs.map FrD.v ++ [Value.slice A n c]) :: row e 1 (.slice A b.length c) b.length (b.map bcell) :: stars (fs.map (FrD.row e)) :: L)) :
    Sat W w (row 22 1 v m ((fs ++ [(FrD.mk A c b)]).map FrD.v) :: stars ((fs ++ [(FrD.mk A c b)]).map (FrD.row e)) :: L) := by
  rw [fr_snoc hn] at s
  have := (s.p 2).p 2
  have s2 := this.starsSnoc
  rw [fr_snocR] at s2
  exact s2.p 1
theorem bulk_mem {l : List (List UInt8)} {i : Nat} {b : List UInt8} (h : l[i]? = some b) : b.length + 1 ≤ bulk l := by
  obtain ⟨hi, hb⟩ := List.getElem?_eq_some_iff.1 h
  have : l = l.take i ++ b :: l.drop (i + 1) := by rw [← hb]; simp
  rw [this, bulk_append, bulk_cons]; omega
theorem bulk_take {l : List (List UInt8)} {i : Nat} : bulk (l.take i) ≤ bulk l := by
  have := bulk_append (l.take i) (l.drop i)
  rw [List.take_append_drop] at this
  omega
theorem jn_ex : jn [[65], [], [66, 67]] = [1, 65, 0, 2, 66, 67] := by simp [jn, numL_lt]
theorem jn_a : jn [[65]] = [1, 65] := by simp [jn, numL_lt]
theorem rd_none (w : World) : Rd w 1 (.slice none 0 0) 0 [] := ⟨none, 0, rfl, Nat.le_refl _, rfl, .inl rfl⟩
theorem frAll_cons {w : World} {f : FrD} {fs : List FrD} (h : f.ok w) (h2 : frAll w fs) : frAll w (f :: fs) := fun g hg => by
  rcases List.mem_cons.1 hg with rfl | hg
  · exact h
  · exact h2 g hg
theorem frAll_nil {w : World} : frAll w [] := fun g hg => by cases hg
theorem str_ne_self (s : ByteArray) : Value.bool (decide (s ≠ s)) = .bool false := by simp
theorem str_ne_of {s t : ByteArray} (h : s = t) : Value.bool (decide (s ≠ t)) = .bool false := by simp [h]
theorem str_eq_of {s t : ByteArray} (h : s = t) : Value.bool (decide (s = t)) = .bool true := by simp [h]
theorem frs_same {fs gs : List FrD} {i : Nat} {f g : FrD} (h : frs fs = frs gs) (hf : fs[i]? = some f) (hg : gs[i]? = some g) : f.b = g.b := by
  have h1 := frs_get hf
  have h2 := frs_get hg
  rw [h, h2] at h1
  exact (Option.some.inj h1).symm
theorem sp_bad {bs : List UInt8} (h : (sp bs 0).1 ≠ 0) : (sp bs 0).2 = [] := by
  rw [sp_begin]
  unfold lf
  rw [if_neg h]
theorem sp_blk (bs : List UInt8) : bulk (sp bs 0).2 ≤ bs.length := by
  by_cases h : (sp bs 0).1 = 0
  · have := sp_bulk bs 0 (Nat.zero_le _) h; omega
  · rw [sp_bad h]; exact Nat.zero_le _
theorem sp_len (bs : List UInt8) : (sp bs 0).2.length ≤ bs.length := Nat.le_trans (bulk_len _) (sp_blk bs)
/-! beginnings of a stream -/
theorem rdF_cut : ∀ (f k v m : Nat), m < (numL v).length → m < f → rdF f k ((numL v).take m) = (50, 0, 0)
  | 0, _, _, m, _, h => by omega
  | f + 1, k, v, m, hm, hf => by
    by_cases h : v < 128
    · rw [numL_lt h] at hm ⊢
      obtain rfl : m = 0 := by simp at hm; omega
      rfl
    · rw [numL_ge (by omega)] at hm ⊢
      cases m with
      | zero => rfl
      | succ m =>
        have e : (UInt8.ofNat (v % 128 + 128)).toNat = v % 128 + 128 := by simp [UInt8.toNat_ofNat']; omega
        have ih := rdF_cut f (k + 1) (v / 128) m (by simp at hm; omega) (by omega)
        simp only [List.take_succ_cons, rdF, e, ih]
        rw [if_neg (by omega)]
        rfl
theorem cut_at : ∀ (l : List (List UInt8)) (n : Nat), n < (jn l).length → (∀ j, j ≤ l.length → (jn (l.take j)).length ≠ n) → ∃ j b m, l[j]? = some b ∧ 0 < m ∧ m < (numL b.length ++ b).length ∧ (jn l).take n = jn (l.take j) ++ (numL b.length ++ b).take m
  | [], n, h, _ => by simp [jn] at h
  | b :: l, n, h, hj => by
    have h0 : n ≠ 0 := fun e => hj 0 (by omega) (by rw [e]; rfl)
    have h1 := hj 1 (by simp)
    have e1 : (jn ((b :: l).take 1)) = numL b.length ++ b := by simp [jn]
    rw [e1] at h1
    rcases Nat.lt_or_ge n (numL b.length ++ b).length with h2 | h2
    · refine ⟨0, b, n, rfl, by omega, h2, ?_⟩
      rw [jn_cons, List.take_append_of_le_length (by omega)]
      rfl
    · obtain ⟨j, x, m, k1, k2, k3, k4⟩ := cut_at l (n - (numL b.length ++ b).length) (by rw [jn_cons, List.length_append] at h; omega) (fun j hjl he => hj (j + 1) (by simp; omega) (by rw [List.take_succ_cons, jn_cons, List.length_append, he]; omega))
      refine ⟨j + 1, x, m, by simpa using k1, k2, k3, ?_⟩
      rw [jn_cons, List.take_append, List.take_of_length_le h2, k4, List.take_succ_cons, jn_cons]
      simp only [List.append_assoc]
theorem sp_cut {l : List (List UInt8)} {n : Nat} (hl : bulk l ≤ 9223372036854775807) (h : n < (jn l).length) (hj : ∀ j, j ≤ l.length → (jn (l.take j)).length ≠ n) : sp ((jn l).take n) 0 = (50, []) := by
  obtain ⟨j, b, m, k1, k2, k3, k4⟩ := cut_at l n h hj
  have hb := bulk_mem k1
  have hbt : bulk (l.take j) ≤ bulk l := by
    have := bulk_append (l.take j) (l.drop j)
    rw [List.take_append_drop] at this
    omega
  have hs := sp_of [] (l.take j) ((numL b.length ++ b).take m) (by omega)
  rw [k4]
  simp only [List.nil_append, List.length_nil] at hs
  have h9 := numL_nine (n := b.length) (by omega)
  have key : sp (jn (l.take j) ++ (numL b.length ++ b).take m) (jn (l.take j)).length = (50, []) := by
    have hlen : (jn (l.take j) ++ (numL b.length ++ b).take m).length = (jn (l.take j)).length + m := by rw [List.length_append, List.length_take]; omega
    rcases Nat.lt_or_ge m (numL b.length).length with h1 | h1
    · have hr : rdA (jn (l.take j) ++ (numL b.length ++ b).take m) (jn (l.take j)).length = (0, 0, 50) := by
        unfold rdA
        rw [List.drop_left, List.take_append_of_le_length (by omega), rdF_cut 9 0 _ _ h1 (by omega)]
        rfl
      rw [sp_err (by omega) (by rw [hr]; decide), hr]
    · have e : (numL b.length ++ b).take m = numL b.length ++ b.take (m - (numL b.length).length) := by rw [List.take_append, List.take_of_length_le h1]
      have hr := rdA_of (jn (l.take j)) (b.take (m - (numL b.length).length)) b.length (by omega)
      rw [List.append_assoc, ← e] at hr
      rw [List.length_append] at k3
      exact sp_short (by omega) (by rw [hr]) (by rw [hr, hlen]; show _ + m - (_ + _) < b.length; omega)
  rw [hs, key]
  rfl
/-- Where the stream may be cut: what the walk over the list found. -/
def EndAt (l : List (List UInt8)) (n i : Nat) (e : Int) : Prop := (∃ j : Nat, j < i ∧ e = (j : Int) ∧ (jn (l.take j)).length = n) ∨ (e = -1 ∧ ∀ j, j < i → (jn (l.take j)).length ≠ n)
theorem EndAt.zero (l : List (List UInt8)) (n : Nat) : EndAt l n 0 (-1) := .inr ⟨rfl, fun j h => by omega⟩
theorem EndAt.hit {l : List (List UInt8)} {n i : Nat} (h : (jn (l.take i)).length = n) : EndAt l n (i + 1) (i : Int) := .inl ⟨i, by omega, rfl, h⟩
theorem EndAt.miss {l : List (List UInt8)} {n i : Nat} {e : Int} (he : EndAt l n i e) (h : (jn (l.take i)).length ≠ n) : EndAt l n (i + 1) e := by
  rcases he with ⟨j, h1, h2, h3⟩ | ⟨h1, h2⟩
  · exact .inl ⟨j, by omega, h2, h3⟩
  · refine .inr ⟨h1, fun j hj => ?_⟩
    rcases Nat.lt_or_ge j i with h3 | h3
    · exact h2 j h3
    · obtain rfl : j = i := by omega
      exact h
theorem EndAt.fin {l : List (List UInt8)} {n i : Nat} {e : Int} (he : EndAt l n i e) (hi : i = l.length + 1) (hl : bulk l ≤ 9223372036854775807) (hn : n < (jn l).length ∨ (n = 0 ∧ (jn l).length = 0)) :
    (0 ≤ e ∧ (e.toNat ≤ l.length ∧ sp ((jn l).take n) 0 = (0, l.take e.toNat))) ∨ (e < 0 ∧ sp ((jn l).take n) 0 = (50, [])) := by
  subst hi
  rcases he with ⟨j, h1, h2, h3⟩ | ⟨h1, h2⟩
  · subst h2
    refine .inl ⟨by omega, by simp; omega, ?_⟩
    have e : jn l = jn (l.take j) ++ jn (l.drop j) := by
      unfold jn
      rw [← List.flatMap_append, List.take_append_drop]
    have e2 : (jn l).take n = jn (l.take j) := by rw [e, ← h3, List.take_left]
    have hbt : bulk (l.take j) ≤ bulk l := by
      have := bulk_append (l.take j) (l.drop j)
      rw [List.take_append_drop] at this
      omega
    rw [e2, sp_jn_back _ (by omega)]
    simp
  · refine .inr ⟨by omega, sp_cut hl ?_ fun j hj => h2 j (by omega)⟩
    rcases hn with h | ⟨h, _⟩
    · exact h
    · exact absurd (show (jn (l.take 0)).length = n by rw [h]; rfl) (h2 0 (by omega))
theorem wrap_u64 (x : Int) : Value.int .u64 (IntKind.u64.wrap x) = .int .u64 (((x % 18446744073709551616).toNat : Nat) : Int) := by
  have h : IntKind.u64.wrap x = x % 18446744073709551616 := by simp [IntKind.wrap, IntKind.signed, IntKind.bits]
  rw [h, Int.toNat_of_nonneg (Int.emod_nonneg _ (by omega))]
theorem slice_hn {A : Option Addr} {c n : Nat} {bs : List UInt8} (hn : n ≤ bs.length) : (Value.slice (cutA A c 1 0) ((n : Int)).toNat c) = .slice (cutA A c 1 0) (bs.take n).length c := by
  have : (bs.take n).length = n := by simp; omega
  rw [this]; simp
theorem piece_h {w : World} {A : Option Addr} {c : Nat} {bs : List UInt8} (h : Rd w 1 (.slice A bs.length c) bs.length (bs.map bcell)) (n : Nat) (hn : n ≤ bs.length) :
    Rd w 1 (.slice (cutA A c 1 0) (bs.take n).length c) (bs.take n).length ((bs.take n).map bcell) := by
  have h' := h.cut_h n hn
  have e : (bs.take n).length = n := by simp; omega
  rw [e, List.map_take]
  rw [Nat.mul_one] at h'
  exact h'
theorem frs_take {fs : List FrD} {i : Nat} : (frs fs).take i = frs (fs.take i) := by simp [frs]
theorem Sat.none_ {W w : World} {L : List As} (s : Sat W w L) : Sat W w [] := by
  have := s.perm (L' := L ++ []) (by simp)
  exact this.past
end Go.Proofs.Ytmnekmclpepclaa.Wk
