/-
  num.order, walked.
-/
import Derived.Test.YtjaongknagmfiaaGreatDoorNh
set_option linter.unusedSimpArgs false
set_option linter.unusedVariables false
namespace Go.Proofs.YtjaongknagmfiaaGreatDoor
open Go.RowKit Go.Proofs.YtjaongknagmfiaaGreatDoorW.PrintWords Go.Proofs.YtjaongknagmfiaaGreatDoor.PT

def sgnI (n : Int) : Int := if n < 0 then -1 else if n = 0 then 0 else 1
/-- What num.order answers. -/
def ordL (d : List UInt8) (x : Int) (d' : List UInt8) (x' : Int) : Int :=
  if d.length = 0 ∨ d'.length = 0 then (if d.length = 0 then 0 else 1) - (if d'.length = 0 then 0 else 1)
  else if (d.length : Int) + x ≠ (d'.length : Int) + x' then sgnI ((d.length : Int) + x - (d'.length : Int) - x')
  else Lib.compareBytes d d'
theorem sign_any (n : Int) (h0 : -9223372036854775807 ≤ n) (h1 : n ≤ 9223372036854775807) (w : World) : Calls Tryz.prog 58 #[.int .i64 n] w fun e w' => e = .returned (.int .i64 (sgnI n)) ∧ Below w.heap.size w w' :=
  num_sign.calls n (sgnI n) w (by
    unfold num_sign.f sgnI mx mn
    congr 1
    repeat' split
    all_goals omega)
theorem cmp_any (a b : List UInt8) (w : World) : Calls Tryz.prog 59 #[.string (B a), .string (B b)] w fun e w' => e = .returned (.int .i64 (Lib.compareBytes a b)) ∧ w' = w :=
  Tryz.strings_Compare (B a) (B b) w
set_option maxHeartbeats 8000000 in
set_option maxRecDepth 100000 in
theorem order_any (n n' : Bool) (d d' : List UInt8) (x x' : Int) (w : World) (hd : d.length ≤ 100000) (hd' : d'.length ≤ 100000) (hx : -2000000 ≤ x ∧ x ≤ 2000000) (hx' : -2000000 ≤ x' ∧ x' ≤ 2000000) :
    Calls Tryz.prog 33 #[.agg #[.bool n, .string (B d), .int .i64 x], .agg #[.bool n', .string (B d'), .int .i64 x']] w fun e w' => e = .returned (.int .i64 (ordL d x d' x')) ∧ Below w.heap.size w w' := by
  have z1 : (B d).size = d.length := rfl
  have z2 : (B d').size = d'.length := rfl
  obtain ⟨X, hX⟩ : ∃ X, ordL d x d' x' = X := ⟨_, rfl⟩
  rw [hX]
  unfold ordL at hX
  by_cases h0 : d.length = 0 ∨ d'.length = 0
  · rw [if_pos h0] at hX
    by_cases g0 : d.length = 0
    · rw [if_pos g0] at hX
      have e0 : ((d.length : Int) == 0) = true := by simp [g0]
      by_cases g1 : d'.length = 0
      · rw [if_pos g1] at hX
        subst hX
        have w0 : (d.length : Int) = 0 := by omega
        have w1 : (d'.length : Int) = 0 := by omega
        clear h0
        go_enter Tryz.func33, Tryz.ntmps33
        go_wp2
        go_quiet (fail)
        go_wp2
        go_ret
        exact ⟨rfl, by repeat (first | exact Below.refl _ _ | refine bl_drewN ?_ _ | refine bl_alloc ?_ _)⟩
      · rw [if_neg g1] at hX
        subst hX
        have w0 : (d.length : Int) = 0 := by omega
        have w1 : min (1 : Int) (d'.length : Int) = 1 := by omega
        clear h0
        go_enter Tryz.func33, Tryz.ntmps33
        go_wp2
        go_quiet (fail)
        go_wp2
        go_ret
        exact ⟨rfl, by repeat (first | exact Below.refl _ _ | refine bl_drewN ?_ _ | refine bl_alloc ?_ _)⟩
    · rw [if_neg g0] at hX
      have g1 : d'.length = 0 := by omega
      rw [if_pos g1] at hX
      subst hX
      have e0 : ((d.length : Int) == 0) = false := beq_eq_false_iff_ne.mpr (by omega)
      have w1 : (d'.length : Int) = 0 := by omega
      have w0 : min (1 : Int) (d.length : Int) = 1 := by omega
      clear h0
      go_enter Tryz.func33, Tryz.ntmps33
      go_wp2
      go_quiet (fail)
      go_wp2
      go_ret
      exact ⟨rfl, by repeat (first | exact Below.refl _ _ | refine bl_drewN ?_ _ | refine bl_alloc ?_ _)⟩
  · rw [if_neg h0] at hX
    have e0 : ((d.length : Int) == 0) = false := beq_eq_false_iff_ne.mpr (by omega)
    have e1 : ((d'.length : Int) == 0) = false := beq_eq_false_iff_ne.mpr (by omega)
    by_cases h1 : (d.length : Int) + x ≠ (d'.length : Int) + x'
    · rw [if_pos h1] at hX
      subst hX
      have e2 : (((d.length : Int) + x) != ((d'.length : Int) + x')) = true := by simpa using h1
      go_enter Tryz.func33, Tryz.ntmps33
      go_wp2
      go_quiet (fail)
      go_wp2_with (first
        | (go_at_call 58; (with_reducible refine (sign_any _ (by omega) (by omega) _).mono ?_); rintro e w1 ⟨rfl, hb⟩))
      go_ret
      exact ⟨rfl, bl_trans (by repeat (first | exact Below.refl _ _ | refine bl_drewN ?_ _ | refine bl_alloc ?_ _)) hb⟩
      -- exact ⟨rfl, by repeat (first | exact Below.refl _ _ | refine bl_drewN ?_ _ | refine bl_alloc ?_ _)⟩
    · rw [if_neg h1] at hX
      subst hX
      have e2 : (((d.length : Int) + x) != ((d'.length : Int) + x')) = false := by simpa using h1
      go_enter Tryz.func33, Tryz.ntmps33
      go_wp2
      go_quiet (fail)
      go_wp2_with (first
        | (go_at_call 59; (with_reducible refine (cmp_any d d' _).mono ?_); rintro e w1 ⟨rfl, rfl⟩))
      go_ret
      exact ⟨rfl, by repeat (first | exact Below.refl _ _ | refine bl_drewN ?_ _ | refine bl_alloc ?_ _)⟩
end Go.Proofs.YtjaongknagmfiaaGreatDoor
