/-
  NumLimits is true: the plain law over the printed function.
-/
import Derived.Test.YtjaongknagmfiaaDoorPMx
set_option linter.unusedSimpArgs false
set_option linter.unusedVariables false
namespace Go.Proofs.YtjaongknagmfiaaDoor
open Go.RowKit Go.Proofs.YtjaongknagmfiaaDoorW.PrintWords Go.Proofs.YtjaongknagmfiaaDoor.PM

theorem lim_even (n : Nat) (hn : n = 999 ∨ n = 1000 ∨ n = 1001) (k : Nat) (hk : 1100 ≤ k) : emendlaw2_NumLimits.l0 k (List.replicate n 0) 0 = some true := by
  have hend : ∀ k, 1 ≤ k → emendlaw2_NumLimits.l0 k (List.replicate n 55) (n : Int) = some true := by
    intro k hk
    obtain ⟨k, rfl⟩ : ∃ m, k = m + 1 := ⟨k - 1, by omega⟩
    have e1 : strOfNums (List.replicate n (55 : Int)) = B (List.replicate n 55) := by
      have := strOfNums_B (List.replicate n 55)
      rw [List.map_replicate] at this
      exact this
    simp only [emendlaw2_NumLimits.l0]
    rw [if_neg (by rw [List.length_replicate]; omega), e1]
    unfold num_Normal.f
    rw [if_pos (by rw [B_size, List.length_replicate]; omega), B_data, Option.bind_some, List.length_replicate]
    rcases hn with rfl | rfl | rfl
    · rw [show normL (List.replicate 999 55) = (List.replicate 999 55, 0) by decide +kernel]
      rw [if_neg (by decide), if_pos rfl, if_pos rfl]; rfl
    · rw [show normL (List.replicate 1000 55) = (List.replicate 1000 55, 0) by decide +kernel]
      rw [if_neg (by decide), if_pos rfl, if_pos rfl]; rfl
    · rw [show normL (List.replicate 1001 55) = ([], 2) by decide +kernel]
      rw [if_pos (by decide), if_pos (by rw [B_list]), if_pos rfl]; rfl
  have hl : ∀ (m i k : Nat), i + m = n → m < k → emendlaw2_NumLimits.l0 k (List.replicate i 55 ++ List.replicate m 0) (i : Int) = some true := by
    intro m
    induction m with
    | zero =>
      intro i k hi hk
      have : i = n := by omega
      subst this
      rw [List.replicate_zero, List.append_nil]
      exact hend k (by omega)
    | succ m ih =>
      intro i k hi hk
      obtain ⟨k, rfl⟩ : ∃ m, k = m + 1 := ⟨k - 1, by omega⟩
      simp only [emendlaw2_NumLimits.l0]
      rw [if_pos (by rw [List.length_append, List.length_replicate, List.length_replicate]; omega), if_pos (by omega), Int.toNat_natCast]
      have e : (List.replicate i (55 : Int) ++ List.replicate (m + 1) 0).set i 55 = List.replicate (i + 1) 55 ++ List.replicate m 0 := by
        rw [List.set_append_right _ _ (by rw [List.length_replicate]; exact Nat.le_refl _), List.length_replicate, Nat.sub_self, List.replicate_succ, List.set_cons_zero, List.replicate_succ' (n := i), List.append_assoc]
        rfl
      rw [e, show wrap64 ((i : Int) + 1) = ((i + 1 : Nat) : Int) by unfold wrap64; omega]
      exact ih (i + 1) k (by omega) (by omega)
  have := hl n 0 k (by omega) (by omega)
  rw [List.replicate_zero, List.nil_append] at this
  exact this
theorem numLimits_f (n kind : Int) (hn : -9223372036854775808 ≤ n ∧ n ≤ 9223372036854775807) : emendlaw2_NumLimits.f 2000 n kind = some true := by
  unfold emendlaw2_NumLimits.f
  by_cases h : Int.tmod kind 2 = 0
  · rw [if_pos h]
    obtain ⟨d, hd⟩ : ∃ d, Int.tmod n 2 = d := ⟨_, rfl⟩
    have hdb : d = -1 ∨ d = 0 ∨ d = 1 := by
      by_cases h0 : 0 ≤ n
      · rw [Int.tmod_eq_emod_of_nonneg h0] at hd; omega
      · obtain ⟨m, rfl⟩ : ∃ m, n = -m := ⟨-n, by omega⟩
        rw [Int.neg_tmod, Int.tmod_eq_emod_of_nonneg (by omega)] at hd; omega
    rw [hd]
    rcases hdb with rfl | rfl | rfl
    · rw [show wrap64 (1000 + (-1)) = 999 by unfold wrap64; omega, if_pos (by decide), if_pos (by decide), show (999 : Int).toNat = 999 from rfl]
      exact lim_even 999 (by omega) 2000 (by omega)
    · rw [show wrap64 (1000 + 0) = 1000 by unfold wrap64; omega, if_pos (by decide), if_pos (by decide), show (1000 : Int).toNat = 1000 from rfl]
      exact lim_even 1000 (by omega) 2000 (by omega)
    · rw [show wrap64 (1000 + 1) = 1001 by unfold wrap64; omega, if_pos (by decide), if_pos (by decide), show (1001 : Int).toNat = 1001 from rfl]
      exact lim_even 1001 (by omega) 2000 (by omega)
  · rw [if_neg h]
    decide +kernel
theorem numLimits_true (n kind : Int) (w : World) (he : Env w) (hn : -9223372036854775808 ≤ n ∧ n ≤ 9223372036854775807) (hk : -9223372036854775808 ≤ kind ∧ kind ≤ 9223372036854775807) :
    Calls Tryd.prog 10 #[.int .i64 n, .int .i64 kind] w fun e w' => e = .returned (.bool true) ∧ Below w.heap.size w w' :=
  emendlaw2_NumLimits.calls 2000 n kind true w he (numLimits_f n kind hn)
end Go.Proofs.YtjaongknagmfiaaDoor
