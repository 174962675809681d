/- What was put is read back: plain mathematics. Conditions: texts of at most 2 to the 63. -/
import Derived.Test.YtmnekmclpepclaaPWire10
import Derived.Test.YtmnekmclpepclaaPWire9
import Derived.Test.YtmnekmclpepclaaPWire4
set_option linter.unusedVariables false
set_option linter.unusedSimpArgs false
namespace Go.Proofs.Ytmnekmclpepclaa.Wk
open Go Go.RowKit Go.Proofs.Ytmnekmclpepclaa Go.Proofs.Ytmnekmclpepclaa.K
/-! what was put is read back -/
def stB (s : StepD) : List UInt8 := (pb s.kd s.n s.b s.s).1
def catB (ss : List StepD) : List UInt8 := ss.flatMap stB
def fitS (s : StepD) : Prop := 1 ≤ s.kd ∧ s.kd ≤ 4 ∧ (s.kd = 1 → 0 ≤ s.n)
instance (s : StepD) : Decidable (fitS s) := inferInstanceAs (Decidable (_ ∧ _ ∧ _))
/-- How much wider the limits are. -/
def mW (x : Int) : Int := IntKind.i64.wrap (((BitVec.ofInt IntKind.i64.bits x &&& BitVec.ofInt IntKind.i64.bits 1023).toNat : Nat) : Int)
theorem mW_in (x : Int) : 0 ≤ mW x ∧ mW x ≤ 1023 := by
  unfold mW
  have h : (BitVec.ofInt IntKind.i64.bits x &&& BitVec.ofInt IntKind.i64.bits 1023).toNat ≤ 1023 := by
    rw [BitVec.toNat_and]
    exact Nat.le_trans Nat.and_le_right (by decide)
  generalize (BitVec.ofInt IntKind.i64.bits x &&& BitVec.ofInt IntKind.i64.bits 1023).toNat = z at h
  rw [wrap_in (by simp [IntKind.min, IntKind.signed, IntKind.bits]; try omega) (by simp [IntKind.max, IntKind.signed, IntKind.bits]; try omega)]
  omega
def fitA (m : Int) (s : StepD) : AskD := ⟨s.kd, if s.kd = 1 then (if s.n < 4611686018427387904 then s.n + m else s.n) else if s.kd = 3 ∨ s.kd = 4 then s.s.size + m else 0⟩
def ansS (s : StepD) : GotD := if s.kd = 1 then ⟨s.n, false, ⟨#[]⟩⟩ else if s.kd = 2 then ⟨0, s.b, ⟨#[]⟩⟩ else ⟨0, false, s.s⟩
theorem str_self (s : ByteArray) : str s.data.toList = s := str_ext rfl
theorem upR_of {pre post : List UInt8} {v : Nat} {mo : Int} (hv : v ≤ 9223372036854775807) (hm : (v : Int) ≤ mo) : upR (pre ++ numL v ++ post) pre.length mo = (v, pre.length + (numL v).length, 0) := by
  have h := rdA_of pre post v hv
  unfold upR; rw [h]; simp; omega
theorem rdA_cut {pre : List UInt8} {v k : Nat} (hv : v ≤ 9223372036854775807) (hk : k < (numL v).length) : rdA (pre ++ (numL v).take k) pre.length = (0, 0, 50) := by
  have h9 := numL_nine hv
  have h := rdF_cut 9 0 v k hk (by omega)
  unfold rdA
  rw [List.drop_left, h]; rfl
theorem upR_cut {pre : List UInt8} {v k : Nat} {mo : Int} (hv : v ≤ 9223372036854775807) (hk : k < (numL v).length) : upR (pre ++ (numL v).take k) pre.length mo = (0, 0, 50) := by
  have h := rdA_cut (pre := pre) hv hk
  unfold upR; rw [h]; simp
theorem pcR_of {pre post : List UInt8} {s : List UInt8} {mo : Int} (hv : s.length ≤ 9223372036854775807) (hm : (s.length : Int) ≤ mo) : pcR (pre ++ (numL s.length ++ s) ++ post) pre.length mo = (s, pre.length + (numL s.length ++ s).length, 0) := by
  have e : pre ++ (numL s.length ++ s) ++ post = pre ++ numL s.length ++ (s ++ post) := by simp
  have h := upR_of (pre := pre) (post := s ++ post) hv hm
  rw [e]
  rw [pcR_ok (by rw [h]) (by rw [h]; simp; omega), h]
  have e2 : pre ++ numL s.length ++ (s ++ post) = (pre ++ numL s.length) ++ (s ++ post) := rfl
  dsimp only
  rw [show pre.length + (numL s.length).length = (pre ++ numL s.length).length from by simp, List.drop_left, List.take_left]
  simp; omega
theorem pcR_cut {pre : List UInt8} {s : List UInt8} {mo : Int} {k : Nat} (hv : s.length ≤ 9223372036854775807) (hm : (s.length : Int) ≤ mo) (hk : k < (numL s.length ++ s).length) : (pcR (pre ++ (numL s.length ++ s).take k) pre.length mo).2.2 = 50 := by
  by_cases h : k < (numL s.length).length
  · rw [List.take_append_of_le_length (by omega)]
    rw [pcR_err (by rw [upR_cut hv h]; simp), upR_cut hv h]
  · have e : (numL s.length ++ s).take k = numL s.length ++ s.take (k - (numL s.length).length) := by
      rw [List.take_append, List.take_of_length_le (by omega)]
    have h2 := upR_of (pre := pre) (post := s.take (k - (numL s.length).length)) hv hm
    rw [e, ← List.append_assoc]
    rw [List.length_append] at hk
    rw [pcR_short (by rw [h2]) (by rw [h2]; simp; omega)]
section
variable {m : Int} {s : StepD} {pre post : List UInt8}
theorem one_fit (hf : fitS s) (hm : 0 ≤ m) (hn : s.n ≤ 9223372036854775807) (hs : s.s.size ≤ 9223372036854775807) : oneA (pre ++ stB s ++ post) pre.length (fitA m s) = (ansS s, pre.length + (stB s).length, 0) := by
  obtain ⟨h1, h2, h3⟩ := hf
  by_cases k1 : s.kd = 1
  · have h0 := h3 k1
    have e : stB s = numL s.n.toNat := by unfold stB; rw [k1, pb1 (by omega)]
    rw [oneA1 (show (fitA m s).k = 1 from k1), e]
    have hu := upR_of (pre := pre) (post := post) (v := s.n.toNat) (mo := (fitA m s).n) (by omega) (by unfold fitA; dsimp only; rw [if_pos k1]; split <;> omega)
    rw [hu]
    unfold ansS; rw [if_pos k1]
    simp; omega
  by_cases k2 : s.kd = 2
  · have e : stB s = [if s.b then 1 else 0] := by unfold stB; rw [k2, pb2]
    rw [oneA2 (show (fitA m s).k = 2 from k2), e]
    have hx : (pre ++ [if s.b then (1 : UInt8) else 0] ++ post)[pre.length]? = some (if s.b then 1 else 0) := by simp
    have hl : ¬ 1 < (if s.b then (1 : UInt8) else 0).toNat := by split <;> decide
    rw [flR_ok hx hl]
    unfold ansS; rw [if_neg k1, if_pos k2]
    cases s.b <;> simp
  · have k34 : s.kd = 3 ∨ s.kd = 4 := by omega
    have e : stB s = numL s.s.data.toList.length ++ s.s.data.toList := by unfold stB; rw [pb3 k34]
    rw [oneA34 (show (fitA m s).k = 3 ∨ (fitA m s).k = 4 from k34), e]
    have hu := pcR_of (pre := pre) (post := post) (s := s.s.data.toList) (mo := (fitA m s).n) hs (by unfold fitA; dsimp only; rw [if_neg k1, if_pos k34]; show (s.s.size : Int) ≤ _; omega)
    rw [hu]
    unfold ansS; rw [if_neg k1, if_neg k2]
    simp only [str_self]; rfl
theorem one_cut {k : Nat} (hf : fitS s) (hm : 0 ≤ m) (hn : s.n ≤ 9223372036854775807) (hs : s.s.size ≤ 9223372036854775807) (hk : k < (stB s).length) : (oneA (pre ++ (stB s).take k) pre.length (fitA m s)).2.2 = 50 := by
  obtain ⟨h1, h2, h3⟩ := hf
  by_cases k1 : s.kd = 1
  · have h0 := h3 k1
    have e : stB s = numL s.n.toNat := by unfold stB; rw [k1, pb1 (by omega)]
    rw [e] at hk ⊢
    rw [oneA1 (show (fitA m s).k = 1 from k1), upR_cut (by omega) hk]
    rfl
  by_cases k2 : s.kd = 2
  · have e : stB s = [if s.b then 1 else 0] := by unfold stB; rw [k2, pb2]
    rw [e] at hk ⊢
    obtain rfl : k = 0 := by simp at hk; exact hk
    rw [oneA2 (show (fitA m s).k = 2 from k2), flR_short (by simp)]
    rfl
  · have k34 : s.kd = 3 ∨ s.kd = 4 := by omega
    have e : stB s = numL s.s.data.toList.length ++ s.s.data.toList := by unfold stB; rw [pb3 k34]
    rw [e] at hk ⊢
    rw [oneA34 (show (fitA m s).k = 3 ∨ (fitA m s).k = 4 from k34)]
    have hu := pcR_cut (pre := pre) (s := s.s.data.toList) (mo := (fitA m s).n) hs (by unfold fitA; dsimp only; rw [if_neg k1, if_pos k34]; show (s.s.size : Int) ≤ _; omega) hk
    show (((pcR _ _ _).2.2 : Nat) : Int) = 50
    rw [hu]; rfl
end
def okS (ss : List StepD) : Prop := ∀ s ∈ ss, fitS s ∧ s.n ≤ 9223372036854775807 ∧ s.s.size ≤ 9223372036854775807
theorem catB_cons (s : StepD) (ss : List StepD) : catB (s :: ss) = stB s ++ catB ss := by simp [catB]
theorem from_all {m : Int} (hm : 0 ≤ m) : ∀ (ss : List StepD) (pre post : List UInt8), okS ss → fromA (pre ++ catB ss ++ post) pre.length (ss.map (fitA m)) = (ss.map ansS, (pre ++ catB ss).length, 0)
  | [], pre, post, _ => by simp [fromA, catB]
  | s :: ss, pre, post, h => by
    obtain ⟨h1, h2, h3⟩ := h s (by simp)
    have e : pre ++ catB (s :: ss) ++ post = pre ++ stB s ++ (catB ss ++ post) := by simp [catB_cons]
    have e2 : pre ++ stB s ++ (catB ss ++ post) = (pre ++ stB s) ++ catB ss ++ post := by simp
    have ho := one_fit (pre := pre) (post := catB ss ++ post) h1 hm h2 h3
    have ih := from_all hm ss (pre ++ stB s) post (fun t ht => h t (by simp [ht]))
    rw [List.map_cons, fromA, e, ho]
    rw [if_neg (by simp)]
    dsimp only
    rw [e2, show pre.length + (stB s).length = (pre ++ stB s).length from by simp, ih]
    simp [app, catB_cons]
theorem from_cut {m : Int} (hm : 0 ≤ m) : ∀ (ss : List StepD) (pre : List UInt8) (k : Nat), okS ss → k < (catB ss).length → (fromA (pre ++ (catB ss).take k) pre.length (ss.map (fitA m))).2.2 = 50
  | [], pre, k, _, hk => by simp [catB] at hk
  | s :: ss, pre, k, h, hk => by
    obtain ⟨h1, h2, h3⟩ := h s (by simp)
    rw [catB_cons, List.length_append] at hk
    rw [List.map_cons, fromA]
    by_cases hks : k < (stB s).length
    · have e : (catB (s :: ss)).take k = (stB s).take k := by rw [catB_cons, List.take_append_of_le_length (by omega)]
      have ho := one_cut (pre := pre) h1 hm h2 h3 hks
      rw [e, if_pos (by rw [ho]; decide)]
      exact ho
    · have e : pre ++ (catB (s :: ss)).take k = pre ++ stB s ++ (catB ss).take (k - (stB s).length) := by
        rw [catB_cons, List.take_append, List.take_of_length_le (by omega)]; simp
      have ho := one_fit (pre := pre) (post := (catB ss).take (k - (stB s).length)) h1 hm h2 h3
      rw [e, ho, if_neg (by simp)]
      dsimp only [app]
      rw [show pre.length + (stB s).length = (pre ++ stB s).length from by simp]
      exact from_cut hm ss (pre ++ stB s) _ (fun t ht => h t (by simp [ht])) (by omega)
theorem back_all {m : Int} {ss : List StepD} (hm : 0 ≤ m) (h : okS ss) : rdAll (catB ss) (ss.map (fitA m)) = (ss.map ansS, 0) := by
  have := from_all hm ss [] [] h
  simp only [List.nil_append, List.append_nil, List.length_nil] at this
  rw [rdAll_ok this (by omega)]
theorem back_more {m : Int} {ss : List StepD} (hm : 0 ≤ m) (h : okS ss) (x : UInt8) : (rdAll (catB ss ++ [x]) (ss.map (fitA m))).2 = 52 := by
  have := from_all hm ss [] [x] h
  simp only [List.nil_append, List.length_nil] at this
  rw [rdAll_rest this (by simp)]
theorem back_cut {m : Int} {ss : List StepD} (hm : 0 ≤ m) (h : okS ss) {k : Nat} (hk : k < (catB ss).length) : (rdAll ((catB ss).take k) (ss.map (fitA m))).2 = 50 := by
  have := from_cut hm ss [] k h hk
  simp only [List.nil_append, List.length_nil] at this
  rw [rdAll_err (i := (fromA ((catB ss).take k) 0 (ss.map (fitA m))).2.1) (gs := (fromA ((catB ss).take k) 0 (ss.map (fitA m))).1) (e := 50) (by rw [← this]) (by decide)]
theorem ansS1 {s : StepD} (h : s.kd = 1) : (ansS s).n = s.n := by unfold ansS; rw [if_pos h]
theorem ansS2 {s : StepD} (h : s.kd = 2) : (ansS s).b = s.b := by unfold ansS; rw [if_neg (by omega), if_pos h]
theorem ansS3 {s : StepD} (h : ¬ s.kd = 1) (h2 : ¬ s.kd = 2) : (ansS s).s = s.s := by unfold ansS; rw [if_neg h, if_neg h2]
theorem fitA1 {m : Int} {s : StepD} (h : s.kd = 1) (h2 : s.n < 4611686018427387904) : (fitA m s).n = s.n + m := by unfold fitA; dsimp only; rw [if_pos h, if_pos h2]
theorem fitA1' {m : Int} {s : StepD} (h : s.kd = 1) (h2 : ¬ s.n < 4611686018427387904) : (fitA m s).n = s.n := by unfold fitA; dsimp only; rw [if_pos h, if_neg h2]
theorem fitA3 {m : Int} {s : StepD} (h : s.kd = 3 ∨ s.kd = 4) : (fitA m s).n = s.s.size + m := by unfold fitA; dsimp only; rw [if_neg (by omega), if_pos h]
theorem fitA0 {m : Int} {s : StepD} (h : ¬ s.kd = 1) (h3 : ¬ s.kd = 3) (h4 : ¬ s.kd = 4) : (fitA m s).n = 0 := by unfold fitA; dsimp only; rw [if_neg h, if_neg (by omega)]
theorem fitA_in {m : Int} {s : StepD} (hm : 0 ≤ m ∧ m ≤ 1023) (h : -9223372036854775808 ≤ s.n ∧ s.n ≤ 9223372036854775807) (hs : s.s.size ≤ 140737488355328) : -9223372036854775808 ≤ (fitA m s).n ∧ (fitA m s).n ≤ 9223372036854775807 := by
  unfold fitA; dsimp only
  (repeat' split) <;> omega
def putsL (ss : List StepD) : List StepD := ss.filter (fun s => decide (fitS s))
theorem putsL_zero (ss : List StepD) : putsL (ss.take 0) = [] := rfl
theorem putsL_yes {ss : List StepD} {i : Nat} {s : StepD} (h : ss[i]? = some s) (hf : fitS s) : putsL (ss.take (i + 1)) = putsL (ss.take i) ++ [s] := by
  unfold putsL; rw [List.take_add_one, h, List.filter_append]; simp [hf]
theorem putsL_no {ss : List StepD} {i : Nat} {s : StepD} (h : ss[i]? = some s) (hf : ¬ fitS s) : putsL (ss.take (i + 1)) = putsL (ss.take i) := by
  unfold putsL; rw [List.take_add_one, h, List.filter_append]; simp [hf]
theorem putsL_len (ss : List StepD) : (putsL ss).length ≤ ss.length := List.length_filter_le _ _
theorem putsL_take (ss : List StepD) (i : Nat) : (putsL (ss.take i)).length ≤ i := Nat.le_trans (putsL_len _) (by simp; omega)
theorem step_snoc (gs : List StepD) (g : StepD) : gs.flatMap encS ++ encS g = (gs ++ [g]).flatMap encS := by simp
theorem asks_at {m : Int} {ss : List StepD} {i : Nat} {s : StepD} (h : ss[i]? = some s) : (ss.map (fitA m))[i]? = some (fitA m s) := by simp [h]
theorem pb_fit {s : StepD} (h : fitS s) : (pb s.kd s.n s.b s.s).2 = true := by
  obtain ⟨h1, h2, h3⟩ := h
  unfold pb
  (repeat' split) <;> first | rfl | (have := h3 (by assumption); omega) | omega
theorem catB_succ {ss : List StepD} {i : Nat} {s : StepD} (h : ss[i]? = some s) : catB (ss.take (i + 1)) = catB (ss.take i) ++ (pb s.kd s.n s.b s.s).1 := by
  unfold catB; rw [List.take_add_one, h]; simp [stB]
theorem catB_len : ∀ (ss : List StepD), (∀ s ∈ ss, s.n ≤ 9223372036854775807 ∧ s.s.size ≤ 9223372036854775807) → (catB ss).length ≤ swt ss
  | [], _ => Nat.zero_le _
  | s :: ss, h => by
    have ih := catB_len ss (fun t ht => h t (by simp [ht]))
    have := pb_len (kd := s.kd) (n := s.n) (b := s.b) (s := s.s) (h s (by simp)).1 (h s (by simp)).2
    unfold swt at *
    rw [catB_cons, List.length_append]
    simp only [List.map_cons, List.sum_cons]
    show (pb s.kd s.n s.b s.s).1.length + _ ≤ _
    omega
theorem catB_app (a b : List StepD) : catB (a ++ b) = catB a ++ catB b := by simp [catB]
theorem swt_app (a b : List StepD) : swt (a ++ b) = swt a + swt b := by simp [swt]
theorem swt_puts : ∀ ss : List StepD, swt (putsL ss) ≤ swt ss
  | [] => Nat.le_refl _
  | s :: ss => by
    have ih := swt_puts ss
    unfold putsL swt at *
    rw [List.filter_cons]
    split <;> simp only [List.map_cons, List.sum_cons] <;> omega
def tail2 : List StepD := [⟨0, 1, 300, false, ⟨#[]⟩⟩, ⟨0, 3, 0, false, ⟨#[65, 66]⟩⟩]
theorem tail2_cat : catB tail2 = [172, 2, 2, 65, 66] := by
  have h2 : numL 2 = [2] := by rw [numL_lt (by omega)]; rfl
  have e1 : stB ⟨0, 1, 300, false, ⟨#[]⟩⟩ = [172, 2] := by show (pb 1 300 false ⟨#[]⟩).1 = _; rw [pb1 (by decide)]; exact numL300
  have e2 : stB ⟨0, 3, 0, false, ⟨#[65, 66]⟩⟩ = [2, 65, 66] := by show (pb 3 0 false ⟨#[65, 66]⟩).1 = _; rw [pb3 (.inl rfl)]; show numL 2 ++ [65, 66] = _; rw [h2]; rfl
  unfold tail2; rw [catB_cons, catB_cons, e1, e2]; rfl
theorem back_ok {ss : List StepD} (h : ∀ s ∈ ss, -9223372036854775808 ≤ s.n ∧ s.n ≤ 9223372036854775807 ∧ s.s.size ≤ 140737488355328) : okS (putsL ss ++ tail2) ∧ ∀ s ∈ putsL ss ++ tail2, -9223372036854775808 ≤ s.n ∧ s.n ≤ 9223372036854775807 ∧ s.s.size ≤ 140737488355328 := by
  have h1 : ∀ s ∈ putsL ss ++ tail2, (-9223372036854775808 ≤ s.n ∧ s.n ≤ 9223372036854775807 ∧ s.s.size ≤ 140737488355328) ∧ fitS s := by
    intro s hs
    rcases List.mem_append.1 hs with hs | hs
    · unfold putsL at hs
      rw [List.mem_filter] at hs
      exact ⟨h s hs.1, of_decide_eq_true hs.2⟩
    · unfold tail2 at hs
      simp at hs
      rcases hs with rfl | rfl
      · exact ⟨⟨by decide, by decide, by decide⟩, by decide, by decide, by decide⟩
      · exact ⟨⟨by decide, by decide, by decide⟩, by decide, by decide, by decide⟩
  exact ⟨fun s hs => ⟨(h1 s hs).2, (h1 s hs).1.2.1, by have := (h1 s hs).1.2.2; omega⟩, fun s hs => (h1 s hs).1⟩
theorem swt_mem : ∀ {ss : List StepD} {s : StepD}, s ∈ ss → s.s.size + 9 ≤ swt ss
  | t :: ss, s, h => by
    unfold swt
    simp only [List.map_cons, List.sum_cons]
    rcases List.mem_cons.1 h with rfl | h
    · omega
    · have := swt_mem h
      unfold swt at this
      omega
theorem swt_back (ss : List StepD) : swt (putsL ss ++ tail2) ≤ swt ss + 20 := by
  rw [swt_app]
  have := swt_puts ss
  have h2 : swt tail2 = 20 := rfl
  omega
end Go.Proofs.Ytmnekmclpepclaa.Wk
