/-
  Normal forms and plain forms are read back as the number that they are.
-/
import Derived.Test.YtjaongknagmfiaaGreatDoorLit
import Derived.Test.YtjaongknagmfiaaGreatDoorCmp
set_option linter.unusedSimpArgs false
set_option linter.unusedVariables false
namespace Go.Proofs.YtjaongknagmfiaaGreatDoor
open Go.RowKit

theorem dropW_ne (l : List UInt8) : (l.dropWhile (· == 48)).head? ≠ some 48 := by
  induction l with
  | nil => intro h; cases h
  | cons c l ih =>
    rw [List.dropWhile_cons]
    by_cases h : (c == 48) = true
    · rw [if_pos h]; exact ih
    · rw [if_neg h]
      intro k
      rw [List.head?_cons] at k
      injection k with k
      subst k
      exact h rfl
theorem dropW_split (l : List UInt8) : ∃ m, l = List.replicate m 48 ++ l.dropWhile (· == 48) := by
  induction l with
  | nil => exact ⟨0, rfl⟩
  | cons c l ih =>
    by_cases h : (c == 48) = true
    · obtain ⟨m, hm⟩ := ih
      refine ⟨m + 1, ?_⟩
      rw [List.dropWhile_cons, if_pos h, List.replicate_succ, List.cons_append, ← hm, eq_of_beq h]
    · exact ⟨0, by rw [List.dropWhile_cons, if_neg h]; rfl⟩
theorem trimE_split (l : List UInt8) : ∃ m, l = trimE 48 l ++ List.replicate m 48 := by
  obtain ⟨m, hm⟩ := dropW_split l.reverse
  refine ⟨m, ?_⟩
  unfold trimE
  have := congrArg List.reverse hm
  rw [List.reverse_reverse, List.reverse_append, List.reverse_replicate] at this
  exact this
theorem trimE_ne (l : List UInt8) : (trimE 48 l).getLast? ≠ some 48 := by
  unfold trimE
  rw [List.getLast?_reverse]
  exact dropW_ne _
/-- Parts in normal form. -/
def NP (p : Bool × List UInt8 × Int) : Prop := p = (false, [], 0) ∨ (p.2.1 ≠ [] ∧ (∀ c ∈ p.2.1, isD c = true) ∧ p.2.1.head? ≠ some 48 ∧ p.2.1.getLast? ≠ some 48)
theorem np_trim (n : Bool) (D : List UInt8) (x : Int) (hD : ∀ c ∈ D, isD c = true) (hh : D.head? ≠ some 48) (h0 : trimE 48 D ≠ []) : NP (n, trimE 48 D, x) := by
  obtain ⟨m, hm⟩ := trimE_split D
  refine .inr ⟨h0, fun c hc => hD c (by rw [hm]; exact List.mem_append_left _ hc), ?_, trimE_ne D⟩
  intro k
  apply hh
  rw [hm]
  cases ht : trimE 48 D with
  | nil => exact absurd ht h0
  | cons a t =>
    have k2 : (trimE 48 D).head? = some 48 := k
    rw [ht] at k2
    rw [List.cons_append, List.head?_cons]
    exact k2
theorem splitL_np (l : List UInt8) : NP (splitL l).1 := by
  unfold splitL
  cases hc : cutL l with
  | none => exact .inl rfl
  | some y =>
    obtain ⟨n, wh, pt, e⟩ := y
    obtain ⟨hwh, hpt, _, _, _, _⟩ := cutL_ok hc
    unfold splitC
    simp only
    by_cases h1 : 1000 < l.length
    · rw [if_pos h1]; exact .inl rfl
    · rw [if_neg h1]
      cases hx : expN e with
      | none => exact .inl rfl
      | some v =>
        simp only
        by_cases h0 : trimE 48 ((wh ++ pt).dropWhile (· == 48)) = []
        · rw [if_pos h0]; exact .inl rfl
        · rw [if_neg h0]
          refine np_trim n _ _ (fun c hc => ?_) (dropW_ne _) h0
          have := (List.dropWhile_sublist (· == 48) (l := wh ++ pt)).subset hc
          rcases List.mem_append.1 this with h | h
          · exact hwh c h
          · exact hpt c h
/-- An exponent of a normal form. -/
def nexp (x : Int) : Option (UInt8 × Int) := if x = 0 then none else some (101, x)
theorem nexp_ok (x : Int) (h : -999999 ≤ x ∧ x ≤ 999999) : expOk (nexp x) := by
  unfold nexp
  split
  · trivial
  · exact ⟨.inl rfl, h⟩
theorem nexp_val (x : Int) : expVal (nexp x) = x := by
  unfold nexp
  split
  · rename_i h; rw [h]; rfl
  · rfl
theorem joinS_lit (n : Bool) (d : List UInt8) (x : Int) : joinS (n, d, x) = lit n d [] (nexp x) := by
  unfold joinS lit nexp signed
  by_cases h : x = 0
  · subst h; cases n <;> simp [expS]
  · cases n <;> simp [expS, h]
theorem head_one (d : List UInt8) (h : d ≠ []) : 0 < d.length := by cases d with | nil => exact absurd rfl h | cons a d => simp
theorem splitL_joinS (p : Bool × List UInt8 × Int) (hp : NP p) (h0 : p.2.1 ≠ []) (hx : -999999 ≤ p.2.2 ∧ p.2.2 ≤ 999999) (hl : (joinS p).length ≤ 1000) : splitL (joinS p) = (p, 0) := by
  rcases hp with hp | ⟨_, hd, hh, hla⟩
  · rw [hp] at h0; exact absurd rfl h0
  obtain ⟨n, d, x⟩ := p
  simp only at h0 hd hh hla hx
  rw [joinS_lit] at hl ⊢
  rw [splitL_lit n d [] (nexp x) hd (fun c hc => by cases hc) (head_one d h0) (.inr hh) (nexp_ok x hx) hl, List.append_nil, dropW_head d hh, trimE_last d hla, if_neg h0, nexp_val]
  simp
theorem splitL_zero : splitL [48] = ((false, [], 0), 0) := by decide +kernel
/-- What a normal form is. -/
theorem joinL_ok {p : Bool × List UInt8 × Int} (hp : NP p) (h : (joinL p).2 = 0) : ((p = (false, [], 0) ∧ joinL p = ([48], 0)) ∨ (p.2.1 ≠ [] ∧ (-999999 ≤ p.2.2 ∧ p.2.2 ≤ 999999) ∧ (joinS p).length ≤ 1000 ∧ joinL p = (joinS p, 0))) := by
  unfold joinL at h ⊢
  by_cases h1 : joinBad p
  · rw [if_pos h1] at h; cases h
  · rw [if_neg h1] at h ⊢
    by_cases h2 : p.2.2 < -999999 ∨ 999999 < p.2.2
    · rw [if_pos h2] at h; cases h
    · rw [if_neg h2] at h ⊢
      by_cases h3 : p.2.1.length = 0
      · rw [if_pos h3]
        rcases hp with hp | ⟨hp, _⟩
        · exact .inl ⟨hp, rfl⟩
        · exact absurd (List.eq_nil_of_length_eq_zero h3) hp
      · rw [if_neg h3] at h ⊢
        by_cases h4 : 1000 < (joinS p).length
        · rw [if_pos h4] at h; cases h
        · rw [if_neg h4]
          refine .inr ⟨fun k => h3 (by rw [k]; rfl), by omega, by omega, rfl⟩
theorem splitL_joinL {p : Bool × List UInt8 × Int} (hp : NP p) (h : (joinL p).2 = 0) : splitL (joinL p).1 = (p, 0) := by
  rcases joinL_ok hp h with ⟨h1, h2⟩ | ⟨h1, h2, h3, h4⟩
  · rw [h2, h1]; exact splitL_zero
  · rw [h4]; exact splitL_joinS p hp h1 h2 h3
theorem norm_ok {l : List UInt8} (h : (normL l).2 = 0) : (splitL l).2 = 0 ∧ normL l = joinL (splitL l).1 ∧ (joinL (splitL l).1).2 = 0 ∧ rightL l = ((splitL l).1, 0) ∧ splitL (normL l).1 = ((splitL l).1, 0) := by
  have e : (splitL l).2 = 0 := by
    unfold normL at h
    by_cases k : (splitL l).2 = 0
    · exact k
    · rw [if_pos k] at h; exact absurd h k
  have e2 : normL l = joinL (splitL l).1 := by unfold normL; rw [if_neg (fun k => k e)]
  have e3 : (joinL (splitL l).1).2 = 0 := by rw [← e2]; exact h
  refine ⟨e, e2, e3, ?_, ?_⟩
  · unfold rightL
    rw [if_neg (fun k => k h)]
    exact Prod.ext rfl e
  · rw [e2]; exact splitL_joinL (splitL_np l) e3
/-- The normal form of a normal form is it. -/
theorem norm_norm {l : List UInt8} (h : (normL l).2 = 0) : normL (normL l).1 = normL l := by
  obtain ⟨h1, h2, h3, _, h5⟩ := norm_ok h
  show normL (normL l).1 = _
  unfold normL at h5 ⊢
  rw [h5, if_neg (fun k => k rfl), if_neg (fun k => k h1)]
/-- Parts in normal form that compare as the same are the same. -/
theorem np_eq {p q : Bool × List UInt8 × Int} (hp : NP p) (hq : NP q) (h : cmpP p q = 0) : p = q := by
  have hb : ∀ a b, Lib.compareBytes a b = 0 → a = b := by
    intro a
    induction a with
    | nil => intro b h; cases b with | nil => rfl | cons y b => simp [Lib.compareBytes] at h
    | cons x a ih =>
      intro b h
      cases b with
      | nil => simp [Lib.compareBytes] at h
      | cons y b =>
        simp only [Lib.compareBytes, u8_lt] at h
        by_cases h1 : x.toNat < y.toNat
        · rw [if_pos h1] at h; cases h
        · rw [if_neg h1] at h
          by_cases h2 : y.toNat < x.toNat
          · rw [if_pos h2] at h; cases h
          · rw [if_neg h2] at h
            rw [UInt8.toNat_inj.1 (show x.toNat = y.toNat by omega), ih b h]
  have ho : ∀ (d d' : List UInt8) (x x' : Int), ordL d x d' x' = 0 → (d = [] ∧ d' = []) ∨ (d = d' ∧ x = x') := by
    intro d d' x x' h
    unfold ordL at h
    by_cases h0 : d.length = 0
    · rw [if_pos (.inl h0), if_pos h0] at h
      by_cases h1 : d'.length = 0
      · exact .inl ⟨List.eq_nil_of_length_eq_zero h0, List.eq_nil_of_length_eq_zero h1⟩
      · rw [if_neg h1] at h; cases h
    · by_cases h1 : d'.length = 0
      · rw [if_pos (.inr h1), if_neg h0, if_pos h1] at h; cases h
      · rw [if_neg (by omega)] at h
        by_cases h2 : (d.length : Int) + x = (d'.length : Int) + x'
        · rw [if_neg (fun k => k h2)] at h
          have := hb d d' h
          subst this
          exact .inr ⟨rfl, by omega⟩
        · rw [if_pos h2] at h
          exfalso
          unfold sgnI at h
          split at h
          · cases h
          · split at h
            · omega
            · cases h
  obtain ⟨n, d, x⟩ := p
  obtain ⟨n', d', x'⟩ := q
  have hz : ∀ (n : Bool) (x : Int), NP (n, [], x) → n = false ∧ x = 0 := by
    intro n x h
    rcases h with h | ⟨h, _⟩
    · injection h with h1 h2; injection h2 with _ h3; exact ⟨h1, h3⟩
    · exact absurd rfl h
  cases n <;> cases n'
  · rcases ho d d' x x' h with ⟨rfl, rfl⟩ | ⟨rfl, rfl⟩
    · rw [(hz _ _ hp).2, (hz _ _ hq).2]
    · rfl
  · cases h
  · cases h
  · rcases ho d' d x' x h with ⟨rfl, rfl⟩ | ⟨rfl, rfl⟩
    · exact absurd (hz _ _ hp).1 (by decide)
    · rfl
/-- A plain form is read as the number that it is of. -/
theorem plain_ok {l : List UInt8} (h : (plainL l).2 = 0) : (normL l).2 = 0 ∧ splitL (plainL l).1 = ((splitL l).1, 0) := by
  have hn : (normL l).2 = 0 := by
    unfold plainL rightL at h
    by_cases k : (normL l).2 = 0
    · exact k
    · rw [if_pos k, if_pos k] at h; exact absurd h k
  refine ⟨hn, ?_⟩
  obtain ⟨h1, h2, h3, h4, h5⟩ := norm_ok hn
  have hp := splitL_np l
  unfold plainL at h ⊢
  rw [h4, if_neg (fun k => k rfl)] at h ⊢
  simp only at h ⊢
  generalize (splitL l).1 = p at *
  obtain ⟨n, d, x⟩ := p
  unfold plainP at h ⊢
  simp only at h ⊢
  by_cases h0 : d.length = 0
  · rw [if_pos h0]
    have : d = [] := List.eq_nil_of_length_eq_zero h0
    subst this
    rcases hp with hp | ⟨hp, _⟩
    · rw [hp]; exact splitL_zero
    · exact absurd rfl hp
  · rw [if_neg h0] at h ⊢
    have hd0 : d ≠ [] := fun k => h0 (by rw [k]; rfl)
    rcases hp with hp | ⟨_, hd, hh, hla⟩
    · injection hp with _ hp; injection hp with hp _; exact absurd hp hd0
    simp only at hd hh hla
    by_cases hb : 1000 < d.length + plainM d.length x
    · rw [if_pos hb] at h; cases h
    · rw [if_neg hb] at h ⊢
      by_cases hc : 1000 < (signed n (plainS d x)).length
      · rw [if_pos hc] at h; cases h
      · rw [if_neg hc]
        show splitL (signed n (plainS d x)) = _
        by_cases hx : 0 ≤ x
        · have hS : plainS d x = d ++ List.replicate x.toNat 48 := by unfold plainS plainM; rw [if_pos hx, if_pos hx]
          have e : signed n (plainS d x) = lit n (d ++ List.replicate x.toNat 48) [] none := by rw [hS]; unfold lit expS; simp
          rw [e] at hc ⊢
          rw [splitL_lit n _ [] none (fun c hc => by
              rcases List.mem_append.1 hc with k | k
              · exact hd c k
              · rw [(List.mem_replicate.1 k).2]; decide) (fun c hc => by cases hc) (by rw [List.length_append]; omega) (.inr (by
              cases d with
              | nil => exact absurd rfl hd0
              | cons a d => rw [List.cons_append, List.head?_cons]; exact hh)) trivial (by omega)]
          rw [List.append_nil, dropW_head _ (by
              cases d with
              | nil => exact absurd rfl hd0
              | cons a d => rw [List.cons_append, List.head?_cons]; exact hh), trimE_zeros, trimE_last d hla, if_neg hd0]
          simp [expVal]
          omega
        · have hm : plainM d.length x = (1 - (d.length : Int) - x).toNat := by unfold plainM; rw [if_neg hx]
          have hS : plainS d x = (List.replicate (plainM d.length x) 48 ++ d).take ((d.length : Int) + (plainM d.length x : Int) + x).toNat ++ 46 :: (List.replicate (plainM d.length x) 48 ++ d).drop ((d.length : Int) + (plainM d.length x : Int) + x).toNat := by unfold plainS; rw [if_neg hx]
          generalize plainM d.length x = m at *
          obtain ⟨S0, hS0⟩ : ∃ S0, List.replicate m 48 ++ d = S0 := ⟨_, rfl⟩
          obtain ⟨k, hk⟩ : ∃ k, ((d.length : Int) + (m : Int) + x).toNat = k := ⟨_, rfl⟩
          have hl0 : S0.length = m + d.length := by rw [← hS0, List.length_append, List.length_replicate]
          have hSD : ∀ c ∈ S0, isD c = true := by
            rw [← hS0]
            intro c hc
            rcases List.mem_append.1 hc with g | g
            · rw [(List.mem_replicate.1 g).2]; decide
            · exact hd c g
          rw [hS0, hk] at hS
          have hkb : 1 ≤ k ∧ k < S0.length := by omega
          have hP : S0.drop k ≠ [] := by
            intro g
            have := List.drop_eq_nil_iff.1 g
            omega
          have hPl : (S0.drop k).length = S0.length - k := List.length_drop
          have hWl : (S0.take k).length = k := by rw [List.length_take]; omega
          have e : signed n (plainS d x) = lit n (S0.take k) (S0.drop k) none := by rw [hS]; unfold lit expS; rw [if_neg hP, List.append_nil]
          have hdrop : (S0.take k ++ S0.drop k).dropWhile (· == 48) = d := by rw [List.take_append_drop, ← hS0, dropW_zeros, dropW_head d hh]
          rw [e] at hc ⊢
          rw [splitL_lit n _ _ none (fun c hc => hSD c (List.mem_of_mem_take hc)) (fun c hc => hSD c (List.mem_of_mem_drop hc)) (by omega) (by
              by_cases hm0 : m = 0
              · right
                subst hm0
                rw [← hS0, List.replicate_zero, List.nil_append]
                cases d with
                | nil => exact absurd rfl hd0
                | cons a d =>
                  obtain ⟨j, rfl⟩ : ∃ j, k = j + 1 := ⟨k - 1, by omega⟩
                  rw [List.take_succ_cons, List.head?_cons]
                  exact hh
              · left; omega) trivial (by omega), hdrop, trimE_last d hla, if_neg hd0]
          rw [hPl]
          simp only [expVal]
          congr 3
          omega
end Go.Proofs.YtjaongknagmfiaaGreatDoor
