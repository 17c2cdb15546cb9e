/-
  The printed SpotOf's and the reference's At, by a scan.
-/
import Derived.Test.YtgdfgahpjebcaaaDoorMd
set_option linter.unusedSimpArgs false
set_option linter.unusedVariables false
namespace Go.Proofs.YtgdfgahpjebcaaaDoor
open Go.RowKit Go.Proofs.YtgdfgahpjebcaaaDoorW.PrintWords Go.Proofs.YtgdfgahpjebcaaaDoor.PT

/-- What SpotOf answers. -/
def spotS (s : ByteArray) (at_ : Int) (l : List Int) (e : Option Nat) : Int × Int × Int :=
  if at_ < 0 ∨ at_ > s.size then (0, 0, 5) else if e.isNone then spotL at_ l 0 1 1 else (0, 0, 10)
theorem spot_l0 {s : ByteArray} (hsz : s.size ≤ 140737488355328) (at_ : Int) (h0 : 0 ≤ at_) (h1 : at_ ≤ s.size) {i : Nat} {l : List Int} {e : Option Nat} (h : Scan s i l e) : e = none → ∀ K (ln cl : Int), s.size - i + 10 ≤ K → 1 ≤ ln → ln ≤ i + 1 → 1 ≤ cl → cl ≤ i + 1 → text_SpotOf.l0 K s at_ i ln cl = some (spotL at_ l i ln cl) := by
  induction h with
  | done =>
    intro _ K ln cl hK _ _ _ _
    obtain ⟨K, rfl⟩ : ∃ m, K = m + 1 := ⟨K - 1, by omega⟩
    rw [text_SpotOf.l0, if_neg (by omega)]; rfl
  | @bad i hi h => intro he; cases he
  | @step i x l e hi h k ih =>
    intro he K ln cl hK a1 a2 a3 a4
    have hen := encI_length x
    have hle := k.le
    obtain ⟨K, rfl⟩ : ∃ m, K = m + 8 + 1 := ⟨K - 9, by omega⟩
    have hf := first_at K s i hi
    rw [h] at hf
    have hten := dec_ten s i x hi h
    have e1 : ((i : Int)).toNat = i := by omega
    rw [text_SpotOf.l0]
    simp only [spotL]
    by_cases h2 : (i : Int) < at_
    · rw [if_pos h2, if_pos h2, if_pos (by omega), if_pos (by omega), e1, hf, Option.bind_some]
      simp only []
      rw [w64 (by omega) (by omega)]
      by_cases h3 : (i : Int) + ((encI x).length : Int) > at_
      · rw [if_pos h3, if_pos h3]
      · rw [if_neg h3, if_neg h3, if_pos (by omega)]
        by_cases h4 : x = 10
        · rw [if_pos (hten.mpr h4), if_pos h4, if_pos h4, w64 (by omega) (by omega), ← Int.natCast_add]
          exact ih he _ _ _ (by omega) (by omega) (by omega) (by omega) (by omega)
        · rw [if_neg (fun h => h4 (hten.mp h)), if_neg h4, if_neg h4, w64 (by omega) (by omega), ← Int.natCast_add]
          exact ih he _ _ _ (by omega) (by omega) (by omega) (by omega) (by omega)
    · rw [if_neg h2, if_neg h2]
theorem spot_f {s : ByteArray} (hsz : s.size ≤ 140737488355328) (at_ : Int) {l : List Int} {e : Option Nat} (h : Scan s 0 l e) : text_SpotOf.f (s.size + 11) s at_ = some (spotS s at_ l e) := by
  have hv : text_Valid.f (s.size + 10) s = some e.isNone := by
    have hv := valid_f hsz h
    exact text_Valid.mono s (s.size + 9) _ hv
  unfold text_SpotOf.f spotS
  by_cases h1 : at_ < 0
  · rw [if_pos h1, text_SpotOf.j0, if_pos rfl, if_pos (Or.inl h1)]
  · rw [if_neg h1, text_SpotOf.j0]
    by_cases h2 : at_ > s.size
    · rw [if_pos (by simpa using h2), if_pos (Or.inr h2)]
    · rw [if_neg (by simpa using h2), if_neg (fun h => h.elim h1 h2), hv, Option.bind_some]
      cases e with
      | some a => rfl
      | none =>
        simp only [Option.isNone_none, ↓reduceIte]
        exact spot_l0 hsz at_ (by omega) (by omega) h rfl _ _ _ (by omega) (by omega) (by omega) (by omega) (by omega)

theorem rspot_l0 {s : ByteArray} (hsz : s.size ≤ 140737488355328) (at_ : Int) (h0 : 0 ≤ at_) (h1 : at_ ≤ s.size) {i : Nat} {l : List Int} {e : Option Nat} (h : Scan s i l e) : e = none → ∀ K (ln cl : Int), s.size - i + 11 ≤ K → 1 ≤ ln → ln ≤ i + 1 → 1 ≤ cl → cl ≤ i + 1 → emendref1_SpotOf.l0 K s at_ ln cl i = some (spotL at_ l i ln cl) := by
  induction h with
  | done =>
    intro _ K ln cl hK _ _ _ _
    obtain ⟨K, rfl⟩ : ∃ m, K = m + 1 := ⟨K - 1, by omega⟩
    rw [emendref1_SpotOf.l0, if_neg (by omega)]; rfl
  | @bad i hi h => intro he; cases he
  | @step i x l e hi h k ih =>
    intro he K ln cl hK a1 a2 a3 a4
    have hen := encI_length x
    have hle := k.le
    obtain ⟨K, rfl⟩ : ∃ m, K = m + 9 + 1 := ⟨K - 10, by omega⟩
    have hf := one_f K s i (by omega) (by omega) (by omega)
    rw [h] at hf
    rw [emendref1_SpotOf.l0]
    simp only [spotL]
    by_cases h2 : (i : Int) < at_
    · rw [if_pos h2, if_pos h2, hf, Option.bind_some]
      simp only []
      rw [w64 (by omega) (by omega)]
      by_cases h3 : (i : Int) + ((encI x).length : Int) > at_
      · rw [if_pos h3, if_pos h3]
      · rw [if_neg h3, if_neg h3]
        by_cases h4 : x = 10
        · rw [if_pos h4, if_pos h4, if_pos h4, w64 (by omega) (by omega), ← Int.natCast_add]
          exact ih he _ _ _ (by omega) (by omega) (by omega) (by omega) (by omega)
        · rw [if_neg h4, if_neg h4, if_neg h4, w64 (by omega) (by omega), ← Int.natCast_add]
          exact ih he _ _ _ (by omega) (by omega) (by omega) (by omega) (by omega)
    · rw [if_neg h2, if_neg h2]
theorem rvalid_f {s : ByteArray} (hsz : s.size ≤ 17592186000000) {l : List Int} {e : Option Nat} (h : Scan s 0 l e) : emendref1_Valid.f (s.size + 10) s = some e.isNone := by
  unfold emendref1_Valid.f
  rw [runes_f hsz h, Option.bind_some]
  cases e <;> rfl
theorem rspot_f {s : ByteArray} (hsz : s.size ≤ 17592186000000) (at_ : Int) {l : List Int} {e : Option Nat} (h : Scan s 0 l e) : emendref1_SpotOf.f (s.size + 12) s at_ = some (spotS s at_ l e) := by
  have hv : emendref1_Valid.f (s.size + 11) s = some e.isNone := emendref1_Valid.mono s (s.size + 10) _ (rvalid_f hsz h)
  unfold emendref1_SpotOf.f spotS
  by_cases h1 : at_ < 0
  · rw [if_pos h1, emendref1_SpotOf.j0, if_pos rfl, if_pos (Or.inl h1)]
  · rw [if_neg h1, emendref1_SpotOf.j0]
    by_cases h2 : at_ > s.size
    · rw [if_pos (by simpa using h2), if_pos (Or.inr h2)]
    · rw [if_neg (by simpa using h2), if_neg (fun h => h.elim h1 h2), hv, Option.bind_some]
      cases e with
      | some a => rfl
      | none =>
        simp only [Option.isNone_none, ↓reduceIte]
        exact rspot_l0 (by omega) at_ (by omega) (by omega) h rfl _ _ _ (by omega) (by omega) (by omega) (by omega) (by omega)

/-- What At answers. -/
def atS (line col : Int) (l : List Int) (e : Option Nat) : Int × Int := if e.isNone then atL line col l 0 1 1 else (0, 10)
theorem rat_l0 {s : ByteArray} (hsz : s.size ≤ 140737488355328) (line col : Int) {i : Nat} {l : List Int} {e : Option Nat} (h : Scan s i l e) : e = none → ∀ K (ln cl : Int), 2 * (s.size - i) + 12 ≤ K → 1 ≤ ln → ln ≤ i + 1 → 1 ≤ cl → cl ≤ i + 1 → emendref1_At.l0 K s line col ln cl i = some (atL line col l i ln cl) := by
  induction h with
  | done =>
    intro _ K ln cl hK _ _ _ _
    obtain ⟨K, rfl⟩ : ∃ m, K = m + 1 + 1 := ⟨K - 2, by omega⟩
    rw [emendref1_At.l0, if_pos (by omega)]
    simp only [atL]
    by_cases h1 : ln = line
    · rw [if_pos h1, emendref1_At.j1]
      by_cases h2 : cl = col
      · rw [if_pos (by simpa using h2), if_pos ⟨h1, h2⟩]
      · rw [if_neg (by simpa using h2), if_pos rfl, if_neg (fun h => h2 h.2)]
    · rw [if_neg h1, emendref1_At.j1, if_neg (by simp), if_pos rfl, if_neg (fun h => h1 h.1)]
  | @bad i hi h => intro he; cases he
  | @step i x l e hi h k ih =>
    intro he K ln cl hK a1 a2 a3 a4
    have hen := encI_length x
    have hle := k.le
    obtain ⟨K, rfl⟩ : ∃ m, K = m + 9 + 1 + 1 := ⟨K - 11, by omega⟩
    have hf := one_f K s i (by omega) (by omega) (by omega)
    rw [h] at hf
    have hj : emendref1_At.j1 (K + 9 + 1) s line col ln cl i false = some (atL line col l (i + (encI x).length) (if x = 10 then ln + 1 else ln) (if x = 10 then 1 else cl + 1)) := by
      rw [emendref1_At.j1, if_neg (by simp), if_neg (by omega), hf, Option.bind_some]
      simp only []
      rw [w64 (n := (i : Int) + ((encI x).length : Int)) (by omega) (by omega)]
      by_cases h4 : x = 10
      · rw [if_pos h4, if_pos h4, if_pos h4, w64 (by omega) (by omega), ← Int.natCast_add]
        exact ih he _ _ _ (by omega) (by omega) (by omega) (by omega) (by omega)
      · rw [if_neg h4, if_neg h4, if_neg h4, w64 (by omega) (by omega), ← Int.natCast_add]
        exact ih he _ _ _ (by omega) (by omega) (by omega) (by omega) (by omega)
    rw [emendref1_At.l0, if_pos (by omega)]
    simp only [atL]
    by_cases h1 : ln = line
    · rw [if_pos h1]
      by_cases h2 : cl = col
      · rw [emendref1_At.j1, if_pos (by simpa using h2), if_pos ⟨h1, h2⟩]
      · rw [show (cl == col) = false by simpa using h2, hj, if_neg (show ¬ (ln = line ∧ cl = col) from fun h => h2 h.2)]
    · rw [if_neg h1, hj, if_neg (show ¬ (ln = line ∧ cl = col) from fun h => h1 h.1)]
theorem rat_f {s : ByteArray} (hsz : s.size ≤ 17592186000000) (line col : Int) {l : List Int} {e : Option Nat} (h : Scan s 0 l e) : emendref1_At.f (2 * s.size + 12) s line col = some (atS line col l e) := by
  have hv : emendref1_Valid.f (2 * s.size + 12) s = some e.isNone := by
    have hm : ∀ j, emendref1_Valid.f (s.size + 10 + j) s = some e.isNone := by
      intro j
      induction j with
      | zero => exact rvalid_f hsz h
      | succ j ih => exact emendref1_Valid.mono s (s.size + 10 + j) _ ih
    have := hm (s.size + 2)
    rw [show s.size + 10 + (s.size + 2) = 2 * s.size + 12 by omega] at this
    exact this
  unfold emendref1_At.f atS
  rw [hv, Option.bind_some]
  cases e with
  | some a => rfl
  | none =>
    simp only [Option.isNone_none, ↓reduceIte]
    exact rat_l0 (by omega) line col h rfl _ _ _ (by omega) (by omega) (by omega) (by omega) (by omega)
end Go.Proofs.YtgdfgahpjebcaaaDoor
