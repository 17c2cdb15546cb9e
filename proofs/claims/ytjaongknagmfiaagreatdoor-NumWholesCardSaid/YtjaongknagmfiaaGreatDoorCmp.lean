/-
  Comparisons: what turns round, goes on, and answers -1, 0 or 1; the numbers' comparison is one.
-/
import Derived.Test.YtjaongknagmfiaaGreatDoorNj
set_option linter.unusedSimpArgs false
set_option linter.unusedVariables false
namespace Go.Proofs.YtjaongknagmfiaaGreatDoor
open Go.RowKit

structure Cmp {α : Type} (f : α → α → Int) : Prop where
  anti : ∀ a b, f a b = - f b a
  rng : ∀ a b, f a b = -1 ∨ f a b = 0 ∨ f a b = 1
  trans : ∀ a b c, f a b ≤ 0 → f b c ≤ 0 → f a c ≤ 0
theorem Cmp.self {α : Type} {f : α → α → Int} (h : Cmp f) (a : α) : f a a = 0 := by have := h.anti a a; omega
theorem Cmp.strict {α : Type} {f : α → α → Int} (h : Cmp f) (a b c : α) (h1 : f a b < 0) (h2 : f b c ≤ 0) : f a c < 0 := by
  by_cases g : f a c < 0
  · exact g
  · have a1 := h.anti a c
    have a2 := h.anti b a
    have := h.trans b c a h2 (by omega)
    omega
theorem Cmp.strict2 {α : Type} {f : α → α → Int} (h : Cmp f) (a b c : α) (h1 : f a b ≤ 0) (h2 : f b c < 0) : f a c < 0 := by
  by_cases g : f a c < 0
  · exact g
  · have a1 := h.anti a c
    have a2 := h.anti b c
    have := h.trans c a b (by omega) h1
    omega
theorem Cmp.eq {α : Type} {f : α → α → Int} (h : Cmp f) (a b c : α) (h1 : f a b = 0) : f b c = f a c := by
  have a1 := h.anti a b
  have t1 := h.trans a b c (by omega)
  have t2 := h.trans b a c (by omega)
  have t3 := h.strict2 a b c (by omega)
  have t4 := h.strict2 b a c (by omega)
  rcases h.rng b c with r | r | r <;> rcases h.rng a c with s | s | s <;> omega
theorem Cmp.comap {α β : Type} {f : α → α → Int} (h : Cmp f) (k : β → α) : Cmp fun a b => f (k a) (k b) :=
  ⟨fun a b => h.anti _ _, fun a b => h.rng _ _, fun a b c => h.trans _ _ _⟩
theorem Cmp.lex {α : Type} {f g : α → α → Int} (hf : Cmp f) (hg : Cmp g) : Cmp fun p q : α => if f p q ≠ 0 then f p q else g p q := by
  refine ⟨fun a b => ?_, fun a b => ?_, fun a b c => ?_⟩
  · have h1 := hf.anti a b
    by_cases h : f a b = 0
    · rw [if_neg (fun k => k h), if_neg (by omega)]; exact hg.anti a b
    · rw [if_pos h, if_pos (by omega)]; exact h1
  · by_cases h : f a b = 0
    · rw [if_neg (fun k => k h)]; exact hg.rng a b
    · rw [if_pos h]; exact hf.rng a b
  · intro h1 h2
    by_cases e1 : f a b = 0
    · rw [if_neg (fun k => k e1)] at h1
      have e := hf.eq a b c e1
      by_cases e2 : f b c = 0
      · rw [if_neg (fun k => k e2)] at h2
        rw [if_neg (by omega)]; exact hg.trans a b c h1 h2
      · rw [if_pos e2] at h2
        rw [if_pos (by omega)]; omega
    · rw [if_pos e1] at h1
      by_cases e2 : f b c = 0
      · have := hf.strict a b c (by omega) (by omega)
        rw [if_pos (by omega)]; omega
      · rw [if_pos e2] at h2
        have := hf.strict a b c (by omega) (by omega)
        rw [if_pos (by omega)]; omega
theorem Cmp.int : Cmp fun a b : Int => sgnI (a - b) := by
  refine ⟨fun a b => ?_, fun a b => ?_, fun a b c => ?_⟩
  all_goals unfold sgnI
  all_goals repeat' split
  all_goals omega
theorem u8_lt (a b : UInt8) : (a < b) ↔ a.toNat < b.toNat := UInt8.lt_iff_toNat_lt
theorem Cmp.bytes : Cmp Lib.compareBytes := by
  have anti : ∀ a b, Lib.compareBytes a b = - Lib.compareBytes b a := by
    intro a
    induction a with
    | nil => intro b; cases b <;> simp [Lib.compareBytes]
    | cons x a ih =>
      intro b
      cases b with
      | nil => simp [Lib.compareBytes]
      | cons y b =>
        simp only [Lib.compareBytes, u8_lt]
        have := ih b
        repeat' split
        all_goals omega
  refine ⟨anti, ?_, ?_⟩
  · intro a
    induction a with
    | nil => intro b; cases b <;> simp [Lib.compareBytes]
    | cons x a ih =>
      intro b
      cases b with
      | nil => simp [Lib.compareBytes]
      | cons y b =>
        simp only [Lib.compareBytes]
        repeat' split
        · simp
        · simp
        · exact ih b
  · intro a
    induction a with
    | nil => intro b c h1 h2; cases c <;> simp [Lib.compareBytes]
    | cons x a ih =>
      intro b c h1 h2
      cases b with
      | nil => simp [Lib.compareBytes] at h1
      | cons y b =>
        cases c with
        | nil => simp [Lib.compareBytes] at h2
        | cons z c =>
          simp only [Lib.compareBytes, u8_lt] at h1 h2 ⊢
          have := ih b c
          by_cases h3 : x.toNat < y.toNat <;> by_cases h4 : y.toNat < z.toNat <;> by_cases h5 : y.toNat < x.toNat <;> by_cases h6 : z.toNat < y.toNat
          all_goals simp only [h3, h4, h5, h6, if_true, if_false] at h1 h2
          all_goals first
            | omega
            | (rw [if_pos (by omega)]; omega)
            | (rw [if_neg (by omega), if_neg (by omega)]; exact this h1 h2)
/-- The key of a number without its sign. -/
def ordK (p : List UInt8 × Int) : Int := if p.1.length = 0 then 0 else 1
def ordE (p : List UInt8 × Int) : Int := if p.1.length = 0 then 0 else (p.1.length : Int) + p.2
theorem ordL_eq (d : List UInt8) (x : Int) (d' : List UInt8) (x' : Int) : ordL d x d' x' =
    (fun p q : List UInt8 × Int => if sgnI (ordK p - ordK q) ≠ 0 then sgnI (ordK p - ordK q) else (fun p q : List UInt8 × Int => if sgnI (ordE p - ordE q) ≠ 0 then sgnI (ordE p - ordE q) else Lib.compareBytes p.1 q.1) p q) (d, x) (d', x') := by
  unfold ordL ordK ordE
  simp only
  by_cases h : d.length = 0
  · by_cases h' : d'.length = 0
    · have e : d = [] := List.eq_nil_of_length_eq_zero h
      have e' : d' = [] := List.eq_nil_of_length_eq_zero h'
      subst e e'
      simp [sgnI, Lib.compareBytes]
    · simp [h, h', sgnI]
  · by_cases h' : d'.length = 0
    · simp [h, h', sgnI]
    · rw [if_neg (by omega), if_neg h, if_neg h', if_neg h, if_neg h']
      rw [if_neg (show ¬ (sgnI (1 - 1) ≠ 0) by decide)]
      have e : (d.length : Int) + x - (d'.length : Int) - x' = (d.length : Int) + x - ((d'.length : Int) + x') := by omega
      rw [e]
      by_cases h2 : (d.length : Int) + x = (d'.length : Int) + x'
      · rw [if_neg (fun k => k h2), if_neg (by rw [h2]; simp [sgnI])]
      · rw [if_pos h2, if_pos (by unfold sgnI; repeat' split; all_goals omega)]
theorem Cmp.ord : Cmp fun p q : List UInt8 × Int => ordL p.1 p.2 q.1 q.2 := by
  have h := Cmp.lex (Cmp.comap Cmp.int ordK) (Cmp.lex (Cmp.comap Cmp.int ordE) (Cmp.comap Cmp.bytes (fun p : List UInt8 × Int => p.1)))
  have e : (fun p q : List UInt8 × Int => ordL p.1 p.2 q.1 q.2) = _ := funext fun p => funext fun q => ordL_eq p.1 p.2 q.1 q.2
  rw [e]
  exact h
theorem Cmp.num : Cmp cmpP := by
  have o := Cmp.ord
  refine ⟨?_, ?_, ?_⟩
  · rintro ⟨n, p⟩ ⟨m, q⟩
    cases n <;> cases m
    · exact o.anti p q
    · rfl
    · rfl
    · exact o.anti q p
  · rintro ⟨n, p⟩ ⟨m, q⟩
    cases n <;> cases m
    · exact o.rng p q
    · exact .inr (.inr rfl)
    · exact .inl rfl
    · exact o.rng q p
  · rintro ⟨n, p⟩ ⟨m, q⟩ ⟨k, r⟩ h1 h2
    have a1 : ∀ p q, cmpP (false, p) (true, q) = 1 := fun _ _ => rfl
    have a2 : ∀ p q, cmpP (true, p) (false, q) = -1 := fun _ _ => rfl
    cases n <;> cases m <;> cases k
    · exact o.trans p q r h1 h2
    · rw [a1] at h2; omega
    · rw [a1] at h1; omega
    · rw [a1] at h1; omega
    · rw [a2]; decide
    · rw [a1] at h2; omega
    · rw [a2]; decide
    · exact o.trans r q p h2 h1
end Go.Proofs.YtjaongknagmfiaaGreatDoor
