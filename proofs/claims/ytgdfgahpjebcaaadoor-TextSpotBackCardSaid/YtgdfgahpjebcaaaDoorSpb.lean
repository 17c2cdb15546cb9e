/-
  The byte of a byte's line and column is it; lines and columns rise: plain.
-/
import Derived.Test.YtgdfgahpjebcaaaDoorSpw
set_option linter.unusedSimpArgs false
set_option linter.unusedVariables false
namespace Go.Proofs.YtgdfgahpjebcaaaDoor
open Go.RowKit Go.Proofs.YtgdfgahpjebcaaaDoorW.PrintWords Go.Proofs.YtgdfgahpjebcaaaDoor.PT

/-- A line and column ahead of another. -/
def spLt (a b c d : Int) : Prop := a < c ∨ (a = c ∧ b < d)
theorem spot_back {s : ByteArray} {i : Nat} {l : List Int} {e : Option Nat} (h : Scan s i l e) : e = none → ∀ (at_ ln cl a b : Int), (i : Int) ≤ at_ → at_ ≤ s.size → spotL at_ l i ln cl = (a, b, 0) →
    ((i : Int) = at_ → a = ln ∧ b = cl) ∧ ((i : Int) < at_ → spLt ln cl a b) ∧ atL a b l i ln cl = (at_, 0) := by
  induction h with
  | done =>
    intro _ at_ ln cl a b h1 h2 hs
    simp only [spotL, Prod.mk.injEq] at hs
    obtain ⟨rfl, rfl, _⟩ := hs
    refine ⟨fun _ => ⟨rfl, rfl⟩, fun h => by omega, ?_⟩
    simp only [atL, true_and, if_true]
    rw [show (s.size : Int) = at_ by omega]
  | @bad i hi h => intro he; cases he
  | @step i x l e hi h k ih =>
    intro he at_ ln cl a b h1 h2 hs
    have hen := encI_length x
    simp only [spotL] at hs
    by_cases h3 : (i : Int) < at_
    · rw [if_pos h3] at hs
      by_cases h4 : (i : Int) + ((encI x).length : Int) > at_
      · rw [if_pos h4] at hs; simp at hs
      · rw [if_neg h4, ← Int.natCast_add] at hs
        obtain ⟨k1, k2, k3⟩ := ih he at_ _ _ a b (by omega) h2 hs
        have hlt : spLt ln cl a b := by
          by_cases hx : x = 10
          · rw [if_pos hx, if_pos hx] at k1 k2
            rcases Int.lt_or_eq_of_le (show ((i + (encI x).length : Nat) : Int) ≤ at_ by omega) with h5 | h5
            · rcases k2 h5 with h6 | h6
              · exact .inl (by omega)
              · exact .inl (by omega)
            · have := k1 h5; exact .inl (by omega)
          · rw [if_neg hx, if_neg hx] at k1 k2
            rcases Int.lt_or_eq_of_le (show ((i + (encI x).length : Nat) : Int) ≤ at_ by omega) with h5 | h5
            · rcases k2 h5 with h6 | h6
              · exact .inl (by omega)
              · exact .inr (by omega)
            · have := k1 h5; exact .inr (by omega)
        refine ⟨fun h => by omega, fun _ => hlt, ?_⟩
        simp only [atL]
        have hne : ¬ (ln = a ∧ cl = b) := by rintro ⟨rfl, rfl⟩; rcases hlt with h | h <;> omega
        rw [if_neg hne, ← Int.natCast_add]; exact k3
    · rw [if_neg h3] at hs
      simp only [Prod.mk.injEq] at hs
      obtain ⟨rfl, rfl, _⟩ := hs
      refine ⟨fun _ => ⟨rfl, rfl⟩, fun h => absurd h h3, ?_⟩
      simp only [atL, and_self, if_true]
      rw [show (i : Int) = at_ by omega]
theorem spot_rise {s : ByteArray} {i : Nat} {l : List Int} {e : Option Nat} (h : Scan s i l e) : e = none → ∀ (at1 at2 ln cl a1 b1 a2 b2 : Int), (i : Int) ≤ at1 → at1 < at2 → at2 ≤ s.size →
    spotL at1 l i ln cl = (a1, b1, 0) → spotL at2 l i ln cl = (a2, b2, 0) → spLt a1 b1 a2 b2 := by
  induction h with
  | done => intro _ at1 at2 ln cl a1 b1 a2 b2 h1 h2 h3; omega
  | @bad i hi h => intro he; cases he
  | @step i x l e hi h k ih =>
    intro he at1 at2 ln cl a1 b1 a2 b2 h1 h2 h3 hs1 hs2
    have hb := (spot_back (.step hi h k) he at2 ln cl a2 b2 (by omega) h3 hs2).2.1 (by omega)
    by_cases h4 : (i : Int) < at1
    · simp only [spotL] at hs1 hs2
      rw [if_pos h4] at hs1
      rw [if_pos (show (i : Int) < at2 by omega)] at hs2
      by_cases h5 : (i : Int) + ((encI x).length : Int) > at1
      · rw [if_pos h5] at hs1; simp at hs1
      · rw [if_neg h5, ← Int.natCast_add] at hs1
        rw [if_neg (show ¬ (i : Int) + ((encI x).length : Int) > at2 by omega), ← Int.natCast_add] at hs2
        exact ih he at1 at2 _ _ a1 b1 a2 b2 (by omega) h2 h3 hs1 hs2
    · simp only [spotL] at hs1
      rw [if_neg h4] at hs1
      simp only [Prod.mk.injEq] at hs1
      obtain ⟨rfl, rfl, _⟩ := hs1
      exact hb
/-- The spot of a byte lies behind (0, 0). -/
theorem spot_first {s : ByteArray} {l : List Int} (h : Scan s 0 l none) (at_ a b : Int) (h0 : 0 ≤ at_) (h1 : at_ ≤ s.size) (hs : spotL at_ l 0 1 1 = (a, b, 0)) : spLt 0 0 a b := by
  obtain ⟨k1, k2, _⟩ := spot_back h rfl at_ 1 1 a b h0 h1 hs
  rcases Int.lt_or_eq_of_le h0 with h5 | h5
  · rcases k2 h5 with h | h
    · exact .inl (by omega)
    · exact .inl (by omega)
  · have := k1 h5; exact .inl (by omega)
end Go.Proofs.YtgdfgahpjebcaaaDoor
