/-
  num.Normal and num.right, walked.
-/
import Derived.Test.YtjaongknagmfiaaGreatDoorNf
set_option linter.unusedSimpArgs false
set_option linter.unusedVariables false
namespace Go.Proofs.YtjaongknagmfiaaGreatDoor
open Go.RowKit Go.Proofs.YtjaongknagmfiaaGreatDoorW.PrintWords Go.Proofs.YtjaongknagmfiaaGreatDoor.PT

/-- What num.Normal answers. -/
def normL (l : List UInt8) : List UInt8 × Int := if (splitL l).2 ≠ 0 then ([], (splitL l).2) else joinL (splitL l).1
/-- What Split answers lies in small bounds. -/
theorem splitL_bounds (l : List UInt8) (hl : l.length ≤ 100000) : (splitL l).1.2.1.length ≤ 2 * l.length ∧ (-2000000 ≤ (splitL l).1.2.2 ∧ (splitL l).1.2.2 ≤ 2000000) ∧ (0 ≤ (splitL l).2 ∧ (splitL l).2 ≤ 12) := by
  unfold splitL
  cases hc : cutL l with
  | none => simp [splitC]
  | some y =>
    obtain ⟨n, wh, pt, e⟩ := y
    obtain ⟨hwh, hpt, hex, lw, lp, le⟩ := cutL_ok hc
    unfold splitC
    simp only
    split
    · simp
    · cases hx : expN e with
      | none => simp
      | some v =>
        have hv : -1000000 < v ∧ v < 1000000 := by
          unfold expN at hx
          split at hx
          · cases hx
          · rename_i h6
            injection hx with hx
            have hlt := decVal_lt ((expD e).dropWhile (· == 48)) (fun c hc => hex c ((List.dropWhile_sublist _).subset hc)) 0
            have hp : 10 ^ ((expD e).dropWhile (· == 48)).length ≤ 10 ^ 6 := Nat.pow_le_pow_right (by decide) (by omega)
            split at hx <;> omega
        have hdl : ((wh ++ pt).dropWhile (· == 48)).length ≤ 2 * l.length := by
          have : ((wh ++ pt).dropWhile (· == 48)).length ≤ (wh ++ pt).length := (List.dropWhile_sublist _).length_le
          rw [List.length_append] at this; omega
        have htl : (trimE 48 ((wh ++ pt).dropWhile (· == 48))).length ≤ ((wh ++ pt).dropWhile (· == 48)).length := by
          unfold trimE; rw [List.length_reverse]; exact Nat.le_trans (List.dropWhile_sublist _).length_le (by rw [List.length_reverse]; exact Nat.le_refl _)
        simp only
        split
        · simp
        · simp only; omega

set_option maxHeartbeats 8000000 in
set_option maxRecDepth 100000 in
theorem normal_any (l : List UInt8) (w : World) (hl : l.length ≤ 50000) (he : Env w) : Calls Tryz.prog 10 #[.string (B l)] w fun e w' => e = .returned (.tuple #[.string (B (normL l).1), .int .i64 (normL l).2]) ∧ Below w.heap.size w w' := by
  have HS := Aside0.mk (fun w => split_any l w (by omega))
  obtain ⟨h1, h2, h3⟩ := splitL_bounds l (by omega)
  obtain ⟨X, hX⟩ : ∃ X, normL l = X := ⟨_, rfl⟩
  rw [hX]
  unfold normL at hX
  generalize splitL l = q at HS h1 h2 h3 hX
  obtain ⟨⟨n, d, x⟩, y⟩ := q
  simp only at HS h1 h2 h3 hX
  have HS' := Aside0.mk (show ∀ w : World, Calls Tryz.prog 8 #[.string (B l)] w fun e w' => e = .returned (.tuple #[.agg #[.bool n, .string (B d), .int .i64 x], .int .i64 y]) ∧ Below w.heap.size w w' from HS.out)
  clear HS
  by_cases hy : y = 0
  · rw [if_neg (fun h => h hy)] at hX
    subst hy
    have HJ := Aside0.mk (fun (w : World) (he : Env w) => join_any n d x w (by omega) (by omega) (by omega) he)
    rw [hX] at HJ
    obtain ⟨a, b⟩ := X
    have HE := Aside0.mk he
    clear hX he
    go_enter Tryz.func10, Tryz.ntmps10
    go_wp2_with (first
      | (go_at_call 8; (with_reducible refine (HS'.out _).mono ?_); rintro e w1 ⟨rfl, hb1⟩; have hb2 : Below w.heap.size w (w1.alloc (.cells #[.bool n, .string (B d), .int .i64 x] 24)) := bl_alloc hb1 _; have HE2 := Aside0.mk (HE.out.below hb2 HE.out.size))
      | (go_at_call 24; (refine (HJ.out _ HE2.out).mono ?_); rintro e w2 ⟨rfl, hb3⟩))
    go_ret2
    exact ⟨rfl, bl_trans hb2 hb3⟩
  · rw [if_pos hy] at hX
    subst hX
    have qy : (y != 0) = true := by simpa using hy
    clear he
    go_enter Tryz.func10, Tryz.ntmps10
    go_wp2_with (first
      | (go_at_call 8; (with_reducible refine (HS'.out _).mono ?_); rintro e w1 ⟨rfl, hb1⟩))
    go_ret2
    exact ⟨rfl, by repeat (first | exact Below.refl _ _ | exact hb1 | refine bl_drewN ?_ _ | refine bl_alloc ?_ _)⟩
end Go.Proofs.YtjaongknagmfiaaGreatDoor
