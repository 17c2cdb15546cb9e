/-
  The parts of an int's decimal digits.
-/
import Derived.Test.YtjaongknagmfiaaDoorNrm
set_option linter.unusedSimpArgs false
set_option linter.unusedVariables false
namespace Go.Proofs.YtjaongknagmfiaaDoor
open Go.RowKit

theorem decVal_ge (l : List UInt8) : ∀ acc, acc * 10 ^ l.length ≤ decVal acc l := by
  induction l with
  | nil => intro acc; simp [decVal]
  | cons c l ih =>
    intro acc
    have := ih (acc * 10 + (c.toNat - 48))
    show _ ≤ decVal (acc * 10 + (c.toNat - 48)) l
    refine Nat.le_trans ?_ this
    rw [List.length_cons, Nat.pow_succ, Nat.mul_comm (10 ^ l.length) 10, ← Nat.mul_assoc]
    exact Nat.mul_le_mul_right _ (by omega)
theorem decVal_acc (l : List UInt8) : ∀ acc, decVal acc l = acc * 10 ^ l.length + decVal 0 l := by
  induction l with
  | nil => intro acc; simp [decVal]
  | cons c l ih =>
    intro acc
    show decVal (acc * 10 + (c.toNat - 48)) l = _ + decVal (0 * 10 + (c.toNat - 48)) l
    rw [ih (acc * 10 + (c.toNat - 48)), ih (0 * 10 + (c.toNat - 48)), List.length_cons, Nat.pow_succ, Nat.add_mul, Nat.add_mul, Nat.zero_mul, Nat.mul_assoc acc 10, Nat.mul_comm 10 (10 ^ l.length)]
    omega
theorem decVal_zeros (m : Nat) : decVal 0 (List.replicate m 48) = 0 := by
  induction m with
  | zero => rfl
  | succ m ih => rw [List.replicate_succ]; exact ih
theorem decVal_last (l : List UInt8) (h0 : l ≠ []) (hd : ∀ c ∈ l, isD c = true) (h : l.getLast? ≠ some 48) : 0 < decVal 0 l := by
  obtain ⟨k, a, rfl⟩ : ∃ k a, l = k ++ [a] := ⟨l.dropLast, l.getLast h0, (List.dropLast_concat_getLast _).symm⟩
  rw [decVal_snoc]
  have ha := hd a (by simp)
  have h48 : a ≠ 48 := by rintro rfl; simp at h
  have : a.toNat ≠ 48 := fun k => h48 (UInt8.toNat_inj.1 (by rw [k]; rfl))
  unfold isD at ha
  simp at ha
  omega
theorem decVal_app_pos (l : List UInt8) (m : Nat) (h : 0 < decVal 0 l) : 0 < decVal 0 (l ++ List.replicate m 48) := by
  induction m with
  | zero => simpa using h
  | succ m ih => rw [List.replicate_succ', ← List.append_assoc, decVal_snoc]; omega
theorem tail_last {a : UInt8} {l : List UInt8} (h : (a :: l).getLast? ≠ some 48) (hl : l ≠ []) : l.getLast? ≠ some 48 := by
  rw [List.getLast?_cons, List.getLast?_eq_some_getLast hl] at h
  rw [List.getLast?_eq_some_getLast hl]
  exact h
theorem cmp_val : ∀ (t t' : List UInt8) (m m' : Nat), (∀ c ∈ t, isD c = true) → (∀ c ∈ t', isD c = true) → (t ≠ [] → t.getLast? ≠ some 48) → (t' ≠ [] → t'.getLast? ≠ some 48) → t.length + m = t'.length + m' →
    Lib.compareBytes t t' = sgnI ((decVal 0 (t ++ List.replicate m 48) : Nat) - (decVal 0 (t' ++ List.replicate m' 48) : Nat) : Int) := by
  intro t
  induction t with
  | nil =>
    intro t' m m' _ hd' _ hl' he
    rw [List.nil_append, decVal_zeros]
    cases t' with
    | nil => rw [List.nil_append, decVal_zeros]; rfl
    | cons y r =>
      have := decVal_app_pos _ m' (decVal_last (y :: r) (by simp) hd' (hl' (by simp)))
      unfold sgnI
      rw [if_pos (by omega)]; rfl
  | cons x r ih =>
    intro t' m m' hd hd' hl hl' he
    cases t' with
    | nil =>
      have := decVal_app_pos _ m (decVal_last (x :: r) (by simp) hd (hl (by simp)))
      rw [List.nil_append, decVal_zeros]
      unfold sgnI
      rw [if_neg (by omega), if_neg (by omega)]; rfl
    | cons y r' =>
      have hx := hd x List.mem_cons_self
      have hy := hd' y List.mem_cons_self
      unfold isD at hx hy
      simp at hx hy
      simp only [List.length_cons] at he
      have e1 : decVal 0 (x :: r ++ List.replicate m 48) = (x.toNat - 48) * 10 ^ (r ++ List.replicate m 48).length + decVal 0 (r ++ List.replicate m 48) := by
        show decVal (0 * 10 + (x.toNat - 48)) (r ++ List.replicate m 48) = _
        rw [decVal_acc]; simp
      have e2 : decVal 0 (y :: r' ++ List.replicate m' 48) = (y.toNat - 48) * 10 ^ (r' ++ List.replicate m' 48).length + decVal 0 (r' ++ List.replicate m' 48) := by
        show decVal (0 * 10 + (y.toNat - 48)) (r' ++ List.replicate m' 48) = _
        rw [decVal_acc]; simp
      have el : (r ++ List.replicate m 48).length = (r' ++ List.replicate m' 48).length := by simp; omega
      have hz : ∀ (l : List UInt8) (m : Nat), (∀ c ∈ l, isD c = true) → ∀ c ∈ l ++ List.replicate m 48, isD c = true := by
        intro l m h c hc
        rcases List.mem_append.1 hc with k | k
        · exact h c k
        · rw [(List.mem_replicate.1 k).2]; decide
      have b1 := decVal_lt (r ++ List.replicate m 48) (hz r m (fun c hc => hd c (List.mem_cons_of_mem _ hc))) 0
      have b2 := decVal_lt (r' ++ List.replicate m' 48) (hz r' m' (fun c hc => hd' c (List.mem_cons_of_mem _ hc))) 0
      rw [e1, e2, el]
      rw [el] at b1
      simp only [Nat.zero_add, Nat.one_mul] at b1 b2
      generalize 10 ^ (r' ++ List.replicate m' 48).length = T at *
      simp only [Lib.compareBytes, u8_lt]
      by_cases h1 : x.toNat < y.toNat
      · rw [if_pos h1]
        have : (x.toNat - 48 + 1) * T ≤ (y.toNat - 48) * T := Nat.mul_le_mul_right _ (by omega)
        rw [Nat.add_mul, Nat.one_mul] at this
        unfold sgnI
        rw [if_pos (by omega)]
      · rw [if_neg h1]
        by_cases h2 : y.toNat < x.toNat
        · rw [if_pos h2]
          have : (y.toNat - 48 + 1) * T ≤ (x.toNat - 48) * T := Nat.mul_le_mul_right _ (by omega)
          rw [Nat.add_mul, Nat.one_mul] at this
          unfold sgnI
          rw [if_neg (by omega), if_neg (by omega)]
        · rw [if_neg h2]
          have hxy : x.toNat = y.toNat := by omega
          rw [ih r' m m' (fun c hc => hd c (List.mem_cons_of_mem _ hc)) (fun c hc => hd' c (List.mem_cons_of_mem _ hc)) (fun h => tail_last (hl (by simp)) h) (fun h => tail_last (hl' (by simp)) h) (by omega), hxy]
          congr 1
          omega
theorem nd_low : ∀ k u, k + 1 ≤ Lib.nDigits u → 1 ≤ u → 10 ^ k ≤ u := by
  intro k
  induction k with
  | zero => intro u _ h; simpa using h
  | succ k ih =>
    intro u hu h1
    by_cases h10 : u < 10
    · rw [Lib.nDigits_small h10] at hu; omega
    · rw [Lib.nDigits_big h10] at hu
      have := ih (u / 10) (by omega) (by omega)
      rw [Nat.pow_succ]; omega
/-- The digits of a number above 0 without the noughts behind. -/
theorem tz_facts (u : Nat) (h : 1 ≤ u) : ∃ m, trimE 48 (Lib.decDigits u) ≠ [] ∧ Lib.decDigits u = trimE 48 (Lib.decDigits u) ++ List.replicate m 48 ∧ (∀ c ∈ trimE 48 (Lib.decDigits u), isD c = true) ∧ ((Lib.decDigits u).length : Int) - (trimE 48 (Lib.decDigits u)).length = m := by
  obtain ⟨m, hm⟩ := trimE_split (Lib.decDigits u)
  refine ⟨m, ?_, hm, fun c hc => dd_isD u c (by rw [hm]; exact List.mem_append_left _ hc), ?_⟩
  · intro k
    have h1 := dd_head u h
    have h2 := dd_pos u
    rw [k, List.nil_append] at hm
    rw [hm] at h1 h2
    cases m with
    | zero => simp at h2
    | succ m => rw [List.replicate_succ] at h1; exact h1 rfl
  · have := congrArg List.length hm
    rw [List.length_append, List.length_replicate] at this
    omega
/-- An int's parts. -/
def intP (a : Int) : Bool × List UInt8 × Int := if a = 0 then (false, [], 0) else (decide (a < 0), trimE 48 (Lib.decDigits a.natAbs), ((Lib.decDigits a.natAbs).length : Int) - (trimE 48 (Lib.decDigits a.natAbs)).length)
theorem itoa_lit (a : Int) : Lib.itoa a = lit (decide (a < 0)) (Lib.decDigits a.natAbs) [] none := by
  unfold Lib.itoa lit signed expS
  by_cases h : a < 0
  · rw [if_pos h, if_pos (decide_eq_true h)]; simp
  · rw [if_neg h, if_neg (by rw [decide_eq_false h]; decide), show a.toNat = a.natAbs by omega]; simp
theorem split_int (a : Int) (ha : -9223372036854775808 ≤ a ∧ a ≤ 9223372036854775807) : splitL (Lib.itoa a) = (intP a, 0) := by
  by_cases h : a = 0
  · subst h
    rw [show Lib.itoa 0 = [48] by rw [show (0 : Int) = ((0 : Nat) : Int) from rfl, Lib.itoa_nonneg, Lib.decDigits_one (by decide)]; rfl]
    exact splitL_zero
  · have hu : 1 ≤ a.natAbs := by omega
    have hl := Lib.itoa_length_le a ha.1 ha.2
    obtain ⟨m, h1, h2, h3, h4⟩ := tz_facts a.natAbs hu
    rw [itoa_lit] at hl ⊢
    rw [splitL_lit _ _ [] none (dd_isD _) (fun c hc => by cases hc) (dd_pos _) (.inr (dd_head _ hu)) trivial (by omega), List.append_nil, dropW_head _ (dd_head _ hu), if_neg h1]
    unfold intP
    rw [if_neg h]
    simp [expVal]
theorem int_bounds (a : Int) (ha : -9223372036854775808 ≤ a ∧ a ≤ 9223372036854775807) (h : a ≠ 0) : (Lib.decDigits a.natAbs).length ≤ 20 := by
  rw [Lib.decDigits_length]
  have := Lib.numDigits_eq a.natAbs (by omega) (by omega)
  split at this <;> omega
theorem join_int (a : Int) (ha : -9223372036854775808 ≤ a ∧ a ≤ 9223372036854775807) : (joinL (intP a)).2 = 0 := by
  by_cases h : a = 0
  · subst h; decide
  · have hu : 1 ≤ a.natAbs := by omega
    have hb := int_bounds a ha h
    obtain ⟨m, h1, h2, h3, h4⟩ := tz_facts a.natAbs hu
    have hp : NP (intP a) := by have := splitL_np (Lib.itoa a); rw [split_int a ha] at this; exact this
    have hlen : (trimE 48 (Lib.decDigits a.natAbs)).length ≤ 20 := by
      have := congrArg List.length h2
      rw [List.length_append] at this; omega
    have h5 := head_one _ h1
    unfold intP at hp ⊢
    rw [if_neg h] at hp ⊢
    rcases hp with hp | ⟨q1, q2, q3, q4⟩
    · injection hp with _ hp; injection hp with hp _; exact absurd hp h1
    simp only at q1 q2 q3 q4
    unfold joinL
    rw [if_neg, if_neg (by simp only; omega), if_neg (by simp only; omega), if_neg]
    · have hi := Lib.itoa_length_le (((Lib.decDigits a.natAbs).length : Int) - (trimE 48 (Lib.decDigits a.natAbs)).length) (by omega) (by omega)
      unfold joinS
      simp only
      intro k
      rw [List.length_append] at k
      have e1 : (if decide (a < 0) = true then 45 :: trimE 48 (Lib.decDigits a.natAbs) else trimE 48 (Lib.decDigits a.natAbs)).length ≤ 21 := by
        split
        · rw [List.length_cons]; omega
        · omega
      have e2 : (if ((Lib.decDigits a.natAbs).length : Int) - (trimE 48 (Lib.decDigits a.natAbs)).length ≠ 0 then 101 :: Lib.itoa (((Lib.decDigits a.natAbs).length : Int) - (trimE 48 (Lib.decDigits a.natAbs)).length) else []).length ≤ 22 := by
        split
        · rw [List.length_cons]; omega
        · simp
      omega
    · rintro (k | ⟨_, k | k⟩ | ⟨k, _⟩)
      · have := (allD_tw (trimE 48 (Lib.decDigits a.natAbs)) [] q2 (fun c hc => by cases hc)).1
        rw [List.append_nil] at this
        simp only at k
        rw [this] at k
        omega
      · exact q3 k
      · exact q4 k
      · simp only at k; omega
theorem right_int (a : Int) (ha : -9223372036854775808 ≤ a ∧ a ≤ 9223372036854775807) : rightL (Lib.itoa a) = (intP a, 0) := by
  have h1 := split_int a ha
  have h2 := join_int a ha
  have e : normL (Lib.itoa a) = joinL (intP a) := by unfold normL; rw [h1, if_neg (fun k => k rfl)]
  unfold rightL
  rw [e, if_neg (fun k => k h2), h1]
theorem plain_int (a : Int) (ha : -9223372036854775808 ≤ a ∧ a ≤ 9223372036854775807) : plainL (Lib.itoa a) = (Lib.itoa a, 0) := by
  unfold plainL
  rw [right_int a ha, if_neg (fun k => k rfl)]
  by_cases h : a = 0
  · subst h
    rw [show Lib.itoa 0 = [48] by rw [show (0 : Int) = ((0 : Nat) : Int) from rfl, Lib.itoa_nonneg, Lib.decDigits_one (by decide)]; rfl]
    decide
  · have hu : 1 ≤ a.natAbs := by omega
    have hb := int_bounds a ha h
    obtain ⟨m, h1, h2, h3, h4⟩ := tz_facts a.natAbs hu
    have h5 := head_one _ h1
    have hlen := congrArg List.length h2
    rw [List.length_append, List.length_replicate] at hlen
    have hi := itoa_lit a
    unfold intP
    rw [if_neg h, h4]
    have hm : plainM (trimE 48 (Lib.decDigits a.natAbs)).length (m : Int) = m := by unfold plainM; rw [if_pos (by omega)]; omega
    have hS : plainS (trimE 48 (Lib.decDigits a.natAbs)) (m : Int) = Lib.decDigits a.natAbs := by
      unfold plainS
      rw [if_pos (by omega), hm, ← h2]
    unfold plainP
    simp only
    rw [hm, hS, if_neg (by omega), if_neg (by omega)]
    have e : signed (decide (a < 0)) (Lib.decDigits a.natAbs) = Lib.itoa a := by rw [hi]; unfold lit expS; simp
    rw [e, if_neg (by have := Lib.itoa_length_le a ha.1 ha.2; omega)]
theorem ord_nat (u v : Nat) (hu : 1 ≤ u) (hv : 1 ≤ v) : ordL (trimE 48 (Lib.decDigits u)) (((Lib.decDigits u).length : Int) - (trimE 48 (Lib.decDigits u)).length) (trimE 48 (Lib.decDigits v)) (((Lib.decDigits v).length : Int) - (trimE 48 (Lib.decDigits v)).length) = sgnI ((u : Int) - (v : Int)) := by
  obtain ⟨m, h1, h2, h3, h4⟩ := tz_facts u hu
  obtain ⟨k, g1, g2, g3, g4⟩ := tz_facts v hv
  have h5 := head_one _ h1
  have g5 := head_one _ g1
  unfold ordL
  rw [if_neg (by omega)]
  by_cases he : (Lib.decDigits u).length = (Lib.decDigits v).length
  · rw [if_neg (by omega), cmp_val _ _ m k h3 g3 (fun _ => trimE_ne _) (fun _ => trimE_ne _) (by omega), ← h2, ← g2, dd_val, dd_val]
  · rw [if_pos (by omega)]
    rw [Lib.decDigits_length, Lib.decDigits_length] at he
    rw [Lib.decDigits_length, Lib.decDigits_length]
    have e : ((trimE 48 (Lib.decDigits u)).length : Int) + ((Lib.nDigits u : Int) - (trimE 48 (Lib.decDigits u)).length) - (trimE 48 (Lib.decDigits v)).length - ((Lib.nDigits v : Int) - (trimE 48 (Lib.decDigits v)).length) = (Lib.nDigits u : Int) - (Lib.nDigits v : Int) := by omega
    rw [e]
    have p1 := Lib.nDigits_pos u
    have p2 := Lib.nDigits_pos v
    have q1 := Lib.lt_pow_nDigits u
    have q2 := Lib.lt_pow_nDigits v
    by_cases hlt : Lib.nDigits u < Lib.nDigits v
    · have := nd_low (Lib.nDigits v - 1) v (by omega) hv
      have h10 : 10 ^ Lib.nDigits u ≤ 10 ^ (Lib.nDigits v - 1) := Nat.pow_le_pow_right (by decide) (by omega)
      unfold sgnI
      rw [if_pos (by omega), if_pos (by omega)]
    · have := nd_low (Lib.nDigits u - 1) u (by omega) hu
      have h10 : 10 ^ Lib.nDigits v ≤ 10 ^ (Lib.nDigits u - 1) := Nat.pow_le_pow_right (by decide) (by omega)
      unfold sgnI
      rw [if_neg (by omega), if_neg (by omega), if_neg (by omega), if_neg (by omega)]
theorem cmp_int (a b : Int) : cmpP (intP a) (intP b) = sgnI (a - b) := by
  have hz : ∀ u : Nat, 1 ≤ u → ¬ (trimE 48 (Lib.decDigits u)).length = 0 := fun u hu => by
    obtain ⟨m, h1, _⟩ := tz_facts u hu
    have := head_one _ h1; omega
  unfold intP cmpP
  by_cases ha : a = 0
  · by_cases hb : b = 0
    · subst ha hb; decide
    · rw [if_pos ha, if_neg hb]
      have := hz b.natAbs (by omega)
      by_cases hb0 : b < 0
      · rw [decide_eq_true hb0]
        show (1 : Int) = _
        unfold sgnI
        rw [if_neg (by omega), if_neg (by omega)]
      · rw [decide_eq_false hb0]
        show ordL [] 0 (trimE 48 (Lib.decDigits b.natAbs)) (((Lib.decDigits b.natAbs).length : Int) - (trimE 48 (Lib.decDigits b.natAbs)).length) = _
        unfold ordL sgnI
        rw [if_pos (.inl rfl), if_pos (show ([] : List UInt8).length = 0 from rfl), if_neg this, if_pos (by omega)]; rfl
  · by_cases hb : b = 0
    · rw [if_neg ha, if_pos hb]
      have := hz a.natAbs (by omega)
      by_cases ha0 : a < 0
      · rw [decide_eq_true ha0]
        show (-1 : Int) = _
        unfold sgnI
        rw [if_pos (by omega)]
      · rw [decide_eq_false ha0]
        show ordL (trimE 48 (Lib.decDigits a.natAbs)) (((Lib.decDigits a.natAbs).length : Int) - (trimE 48 (Lib.decDigits a.natAbs)).length) [] 0 = _
        unfold ordL sgnI
        rw [if_pos (.inr rfl), if_neg this, if_pos (show ([] : List UInt8).length = 0 from rfl), if_neg (by omega), if_neg (by omega)]; rfl
    · rw [if_neg ha, if_neg hb]
      have o1 := ord_nat a.natAbs b.natAbs (by omega) (by omega)
      have o2 := ord_nat b.natAbs a.natAbs (by omega) (by omega)
      by_cases ha0 : a < 0
      · by_cases hb0 : b < 0
        · rw [decide_eq_true ha0, decide_eq_true hb0]
          simp only [if_true]
          rw [o2]
          congr 1; omega
        · rw [decide_eq_true ha0, decide_eq_false hb0]
          show (-1 : Int) = _
          unfold sgnI
          rw [if_pos (by omega)]
      · by_cases hb0 : b < 0
        · rw [decide_eq_false ha0, decide_eq_true hb0]
          show (1 : Int) = _
          unfold sgnI
          rw [if_neg (by omega), if_neg (by omega)]
        · rw [decide_eq_false ha0, decide_eq_false hb0]
          simp only [Bool.false_eq_true, if_false]
          rw [o1]
          congr 1; omega
end Go.Proofs.YtjaongknagmfiaaDoor
