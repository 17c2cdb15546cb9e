/-
  Literals that are put together: how num.cut and num.Split take them apart again.
-/
import Derived.Test.YtjaongknagmfiaaGreatDoorNk
set_option linter.unusedSimpArgs false
set_option linter.unusedVariables false
namespace Go.Proofs.YtjaongknagmfiaaGreatDoor
open Go.RowKit

/-! ### Digits -/
theorem allD_tw (W R : List UInt8) (hW : ∀ c ∈ W, isD c = true) (hR : ∀ c, R.head? = some c → isD c = false) : (W ++ R).takeWhile isD = W ∧ (W ++ R).dropWhile isD = R := by
  induction W with
  | nil =>
    cases R with
    | nil => exact ⟨rfl, rfl⟩
    | cons c R => have := hR c rfl; simp [List.takeWhile_cons, List.dropWhile_cons, this]
  | cons c W ih =>
    have hc := hW c List.mem_cons_self
    obtain ⟨h1, h2⟩ := ih (fun x hx => hW x (List.mem_cons_of_mem _ hx))
    simp [List.takeWhile_cons, List.dropWhile_cons, hc, h1, h2]
theorem dd_isD (u : Nat) : ∀ c ∈ Lib.decDigits u, isD c = true := by
  induction u using Nat.strongRecOn with
  | _ u ih =>
    have hd : ∀ n : Nat, n < 10 → isD (UInt8.ofNat (48 + n)) = true := by
      intro n hn
      have : ∀ n : Fin 10, isD (UInt8.ofNat (48 + n.val)) = true := by decide
      exact this ⟨n, hn⟩
    rw [Lib.decDigits]
    split
    · intro c hc; obtain rfl := List.mem_singleton.1 hc; exact hd u (by assumption)
    · intro c hc
      rcases List.mem_append.1 hc with h | h
      · exact ih (u / 10) (by omega) c h
      · obtain rfl := List.mem_singleton.1 h; exact hd _ (by omega)
theorem dd_pos (u : Nat) : 0 < (Lib.decDigits u).length := by rw [Lib.decDigits_length]; exact Lib.nDigits_pos u
theorem dd_head (u : Nat) (h : 1 ≤ u) : (Lib.decDigits u).head? ≠ some 48 := by
  induction u using Nat.strongRecOn with
  | _ u ih =>
    rw [Lib.decDigits]
    split
    · have : ∀ n : Fin 10, 1 ≤ n.val → UInt8.ofNat (48 + n.val) ≠ 48 := by decide
      have := this ⟨u, by assumption⟩ h
      simpa using this
    · have h1 := ih (u / 10) (by omega) (by omega)
      have h2 := dd_pos (u / 10)
      cases hl : Lib.decDigits (u / 10) with
      | nil => rw [hl] at h2; simp at h2
      | cons a l => rw [hl] at h1; simpa using h1
theorem decVal_snoc (l : List UInt8) (c : UInt8) (a : Nat) : decVal a (l ++ [c]) = decVal a l * 10 + (c.toNat - 48) := by unfold decVal; rw [List.foldl_append]; rfl
theorem dd_val (u : Nat) : decVal 0 (Lib.decDigits u) = u := by
  induction u using Nat.strongRecOn with
  | _ u ih =>
    have hd : ∀ n : Nat, n < 10 → (UInt8.ofNat (48 + n)).toNat - 48 = n := by
      intro n hn
      have : ∀ n : Fin 10, (UInt8.ofNat (48 + n.val)).toNat - 48 = n.val := by decide
      exact this ⟨n, hn⟩
    rw [Lib.decDigits]
    split
    · unfold decVal
      simp only [List.foldl_cons, List.foldl_nil]
      rw [hd u (by assumption)]; omega
    · rw [decVal_snoc, ih (u / 10) (by omega), hd _ (by omega)]; omega
theorem dropW_head (l : List UInt8) (h : l.head? ≠ some 48) : l.dropWhile (· == 48) = l := by
  cases l with
  | nil => rfl
  | cons c l => rw [List.dropWhile_cons, if_neg (by intro k; apply h; rw [eq_of_beq k]; rfl)]
theorem dropW_zeros (m : Nat) (l : List UInt8) : (List.replicate m 48 ++ l).dropWhile (· == 48) = l.dropWhile (· == 48) := by
  induction m with
  | zero => rfl
  | succ m ih => rw [List.replicate_succ, List.cons_append, List.dropWhile_cons]; exact ih
theorem trimE_last (l : List UInt8) (h : l.getLast? ≠ some 48) : trimE 48 l = l := by
  unfold trimE
  rw [dropW_head _ (by rw [List.head?_reverse]; exact h), List.reverse_reverse]
theorem trimE_zeros (l : List UInt8) (m : Nat) : trimE 48 (l ++ List.replicate m 48) = trimE 48 l := by
  unfold trimE
  rw [List.reverse_append, List.reverse_replicate, dropW_zeros]
/-! ### An exponent -/
theorem itoa_expD (x : Int) : expD (Lib.itoa x) = Lib.decDigits x.natAbs := by
  unfold Lib.itoa
  by_cases h : x < 0
  · rw [if_pos h]; unfold expD; rw [if_pos (.inl rfl)]; rfl
  · rw [if_neg h]
    have e : x.toNat = x.natAbs := by omega
    rw [e]
    unfold expD
    have hp := dd_pos x.natAbs
    have hd := dd_isD x.natAbs
    cases hl : Lib.decDigits x.natAbs with
    | nil => rw [hl] at hp; simp at hp
    | cons c l =>
      rw [hl] at hd
      have hc := hd c List.mem_cons_self
      rw [if_neg]
      rintro (k | k) <;> (injection k with k; subst k; exact absurd hc (by decide))
theorem itoa_head (x : Int) : ((Lib.itoa x).head? == some 45) = decide (x < 0) := by
  unfold Lib.itoa
  by_cases h : x < 0
  · rw [if_pos h, decide_eq_true h]; rfl
  · rw [if_neg h, decide_eq_false h]
    have hp := dd_pos x.toNat
    have hd := dd_isD x.toNat
    cases hl : Lib.decDigits x.toNat with
    | nil => rfl
    | cons c l =>
      rw [hl] at hd
      have hc := hd c List.mem_cons_self
      cases hb : (some c == some (45 : UInt8)) with
      | false => exact hb
      | true => have := eq_of_beq hb; injection this with this; subst this; exact absurd hc (by decide)
theorem expN_itoa (x : Int) (h : -999999 ≤ x ∧ x ≤ 999999) : expN (Lib.itoa x) = some x := by
  unfold expN
  rw [itoa_expD, itoa_head]
  have hv : decVal 0 ((Lib.decDigits x.natAbs).dropWhile (· == 48)) = x.natAbs := by
    by_cases h0 : 1 ≤ x.natAbs
    · rw [dropW_head _ (dd_head _ h0), dd_val]
    · have : x.natAbs = 0 := by omega
      rw [this, Lib.decDigits_one (by decide)]; decide
  have hl : ¬ 6 < ((Lib.decDigits x.natAbs).dropWhile (· == 48)).length := by
    have h1 := (List.dropWhile_sublist (· == 48) (l := Lib.decDigits x.natAbs)).length_le
    have h2 : (Lib.decDigits x.natAbs).length ≤ 6 := by
      rw [Lib.decDigits_length]
      by_cases h7 : Lib.nDigits x.natAbs ≤ 6
      · exact h7
      · exfalso
        have h3 : ∀ k u, k + 1 ≤ Lib.nDigits u → 1 ≤ k → 10 ^ k ≤ u := by
          intro k
          induction k with
          | zero => intro u _ h; omega
          | succ k ih =>
            intro u hu _
            by_cases h10 : u < 10
            · rw [Lib.nDigits_small h10] at hu; omega
            · rw [Lib.nDigits_big h10] at hu
              by_cases hk : 1 ≤ k
              · have := ih (u / 10) (by omega) hk
                rw [Nat.pow_succ]; omega
              · have : k = 0 := by omega
                subst this; omega
        have := h3 6 x.natAbs (by omega) (by decide)
        omega
    omega
  rw [if_neg hl, hv]
  congr 1
  by_cases hx : x < 0
  · rw [if_pos (decide_eq_true hx)]; omega
  · rw [if_neg (by rw [decide_eq_false hx]; decide)]; omega
/-! ### A literal's pieces -/
/-- What stands behind the digits: nothing, or an exponent with its letter. -/
def expS : Option (UInt8 × Int) → List UInt8
  | none => []
  | some (c, x) => c :: Lib.itoa x
def expR : Option (UInt8 × Int) → List UInt8
  | none => []
  | some (_, x) => Lib.itoa x
def expOk : Option (UInt8 × Int) → Prop
  | none => True
  | some (c, x) => (c = 101 ∨ c = 69) ∧ -999999 ≤ x ∧ x ≤ 999999
def expVal : Option (UInt8 × Int) → Int
  | none => 0
  | some (_, x) => x
def lit (n : Bool) (W P : List UInt8) (E : Option (UInt8 × Int)) : List UInt8 := signed n (W ++ ((if P = [] then [] else 46 :: P) ++ expS E))
theorem expN_expR (E : Option (UInt8 × Int)) (h : expOk E) : expN (expR E) = some (expVal E) := by
  cases E with
  | none => decide
  | some p => exact expN_itoa p.2 h.2
theorem expS_head (E : Option (UInt8 × Int)) (h : expOk E) : ∀ c, (expS E).head? = some c → isD c = false ∧ c ≠ 46 := by
  cases E with
  | none => intro c hc; cases hc
  | some p =>
    intro c hc
    have : p.1 = c := by simpa [expS] using hc
    subst this
    rcases h.1 with k | k <;> rw [k] <;> decide
theorem cutE_expS (n : Bool) (W P : List UInt8) (E : Option (UInt8 × Int)) (h : expOk E) : cutE n W P (expS E) = some (n, W, P, expR E) := by
  cases E with
  | none => rfl
  | some p =>
    obtain ⟨c, x⟩ := p
    show cutE n W P (c :: Lib.itoa x) = some (n, W, P, Lib.itoa x)
    rw [cutE_cons, if_pos h.1]
    have he : (if (Lib.itoa x).head? = some 45 ∨ (Lib.itoa x).head? = some 43 then (Lib.itoa x).tail else Lib.itoa x) = Lib.decDigits x.natAbs := itoa_expD x
    rw [he]
    have hp := dd_pos x.natAbs
    have ht := (allD_tw (Lib.decDigits x.natAbs) [] (dd_isD _) (fun c hc => by cases hc)).1
    rw [List.append_nil] at ht
    rw [ht, if_neg]
    rintro (k | k)
    · rw [k] at hp; simp at hp
    · omega
theorem cutS_lit (n : Bool) (W P : List UInt8) (E : Option (UInt8 × Int)) (hW : ∀ c ∈ W, isD c = true) (hP : ∀ c ∈ P, isD c = true) (h0 : 0 < W.length) (h1 : W.length = 1 ∨ W.head? ≠ some 48) (hE : expOk E) :
    cutS n (W ++ ((if P = [] then [] else 46 :: P) ++ expS E)) = some (n, W, P, expR E) := by
  have hh := expS_head E hE
  have hR : ∀ c, ((if P = [] then [] else 46 :: P) ++ expS E).head? = some c → isD c = false := by
    intro c hc
    by_cases hp : P = []
    · rw [if_pos hp, List.nil_append] at hc; exact (hh c hc).1
    · rw [if_neg hp] at hc
      have : 46 = c := by simpa using hc
      subst this; decide
  obtain ⟨t1, t2⟩ := allD_tw W _ hW hR
  unfold cutS
  rw [t1, t2, if_neg]
  · by_cases hp : P = []
    · subst hp
      rw [if_pos rfl, List.nil_append, if_neg (fun k => (hh 46 k).2 rfl)]
      exact cutE_expS n W [] E hE
    · rw [if_neg hp, if_pos (by rfl)]
      obtain ⟨p1, p2⟩ := allD_tw P (expS E) hP (fun c hc => (hh c hc).1)
      have e : ((46 :: P) ++ expS E).tail = P ++ expS E := rfl
      rw [e, p1, p2, if_neg]
      · exact cutE_expS n W P E hE
      · intro k; exact hp (List.eq_nil_of_length_eq_zero k)
  · rintro (k | ⟨k1, k2⟩)
    · omega
    · rcases h1 with h1 | h1
      · omega
      · apply h1
        cases W with | nil => simp at h0 | cons a W => simpa using k2
theorem isD_ne45 {c : UInt8} (h : isD c = true) : c ≠ 45 := by rintro rfl; exact absurd h (by decide)
theorem cutL_lit (n : Bool) (W P : List UInt8) (E : Option (UInt8 × Int)) (hW : ∀ c ∈ W, isD c = true) (hP : ∀ c ∈ P, isD c = true) (h0 : 0 < W.length) (h1 : W.length = 1 ∨ W.head? ≠ some 48) (hE : expOk E) :
    cutL (lit n W P E) = some (n, W, P, expR E) := by
  have h := cutS_lit n W P E hW hP h0 h1 hE
  unfold cutL lit signed
  cases n with
  | true => rw [if_pos rfl, if_pos (by rfl)]; exact h
  | false =>
    rw [if_neg (show ¬ (false = true) by decide), if_neg]
    · exact h
    · cases W with
      | nil => simp at h0
      | cons a W =>
        intro k
        rw [List.cons_append, List.head?_cons] at k
        injection k with k
        exact isD_ne45 (hW a List.mem_cons_self) k
/-- A literal that is put together is taken apart: its parts. -/
theorem splitL_lit (n : Bool) (W P : List UInt8) (E : Option (UInt8 × Int)) (hW : ∀ c ∈ W, isD c = true) (hP : ∀ c ∈ P, isD c = true) (h0 : 0 < W.length) (h1 : W.length = 1 ∨ W.head? ≠ some 48) (hE : expOk E) (hl : (lit n W P E).length ≤ 1000) :
    splitL (lit n W P E) = if trimE 48 ((W ++ P).dropWhile (· == 48)) = [] then ((false, [], 0), 0)
      else ((n, trimE 48 ((W ++ P).dropWhile (· == 48)), expVal E - (P.length : Int) + ((((W ++ P).dropWhile (· == 48)).length : Int) - ((trimE 48 ((W ++ P).dropWhile (· == 48))).length : Int))), 0) := by
  unfold splitL
  rw [cutL_lit n W P E hW hP h0 h1 hE]
  unfold splitC
  simp only
  rw [if_neg (by omega), expN_expR E hE]
end Go.Proofs.YtjaongknagmfiaaGreatDoor
