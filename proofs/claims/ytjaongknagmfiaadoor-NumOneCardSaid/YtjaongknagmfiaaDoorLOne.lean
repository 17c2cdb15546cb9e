/-
  NumOne is true: the plain law over the printed functions.
-/
import Derived.Test.YtjaongknagmfiaaDoorPEx
import Derived.Test.YtjaongknagmfiaaDoorNrm
set_option linter.unusedSimpArgs false
set_option linter.unusedVariables false
namespace Go.Proofs.YtjaongknagmfiaaDoor
open Go.RowKit Go.Proofs.YtjaongknagmfiaaDoorW.PrintWords Go.Proofs.YtjaongknagmfiaaDoor.PE

theorem few_e (l : List UInt8) (n : Nat) : emendlaw2_few.f (B l) (n : Int) = some (B (l.take n)) := by
  unfold emendlaw2_few.f
  by_cases h : n < l.length
  · rw [if_pos (by rw [B_size]; omega), if_pos (by omega), if_pos (by rw [B_size]; omega), Int.toNat_natCast, B_head]
  · rw [if_neg (by rw [B_size]; omega), List.take_of_length_le (by omega)]
theorem cmp_e (a b : List UInt8) (ha : a.length ≤ 5000) (hb : b.length ≤ 5000) : num_Compare.f (B a) (B b) = some ((cmpL a b).1, (cmpL a b).2) := by
  unfold num_Compare.f
  rw [if_pos ⟨by rw [B_size]; omega, by rw [B_size]; omega⟩, B_data, B_data]
theorem norm_e (a : List UInt8) (ha : a.length ≤ 5000) : num_Normal.f (B a) = some (B (normL a).1, (normL a).2) := by
  unfold num_Normal.f
  rw [if_pos (by rw [B_size]; omega), B_data]
theorem plain_e (a : List UInt8) (ha : a.length ≤ 5000) : num_Plain.f (B a) = some (B (plainL a).1, (plainL a).2) := by
  unfold num_Plain.f
  rw [if_pos (by rw [B_size]; omega), B_data]
theorem runs_e : emendlaw2_NumRuns.f = some true := rfl
theorem norm_len {l : List UInt8} (h : (normL l).2 = 0) : (normL l).1.length ≤ 1000 := by
  obtain ⟨_, h2, h3, _, _⟩ := norm_ok h
  rw [h2]
  rcases joinL_ok (splitL_np l) h3 with ⟨_, e⟩ | ⟨_, _, e, e2⟩
  · rw [e]; simp
  · rw [e2]; exact e
theorem plain_len {l : List UInt8} (h : (plainL l).2 = 0) : (plainL l).1.length ≤ 1000 := by
  unfold plainL at h ⊢
  by_cases k : (rightL l).2 = 0
  · rw [if_neg (fun g => g k)] at h ⊢
    unfold plainP at h ⊢
    by_cases h0 : (rightL l).1.2.1.length = 0
    · rw [if_pos h0]; simp
    · rw [if_neg h0] at h ⊢
      by_cases hb : 1000 < (rightL l).1.2.1.length + plainM (rightL l).1.2.1.length (rightL l).1.2.2
      · rw [if_pos hb] at h; cases h
      · rw [if_neg hb] at h ⊢
        by_cases hc : 1000 < (signed (rightL l).1.1 (plainS (rightL l).1.2.1 (rightL l).1.2.2)).length
        · rw [if_pos hc] at h; cases h
        · rw [if_neg hc]; exact Nat.le_of_not_lt hc
  · rw [if_pos k] at h; exact absurd h k
theorem numOne_j1 (k : Nat) (a : List UInt8) (ha : a.length ≤ 300) (h : (normL a).2 = 0) : emendlaw2_NumOne.j1 (k + 1) (B a) (B (normL a).1) false = some true := by
  rw [emendlaw2_NumOne.j1, if_neg (by decide), plain_e a (by omega), Option.bind_some]
  simp only
  by_cases hp : (plainL a).2 = 0
  · rw [if_pos hp, norm_e _ (by have := plain_len hp; omega), Option.bind_some]
    obtain ⟨_, h2⟩ := plain_ok hp
    obtain ⟨n1, n2, n3, _, _⟩ := norm_ok h
    have e : normL (plainL a).1 = normL a := by
      show normL (plainL a).1 = _
      unfold normL
      rw [h2, if_neg (fun k => k rfl), if_neg (fun k => k n1)]
    rw [e]
    simp only [if_true]
    rw [if_pos h]
    rfl
  · rw [if_neg hp]; rfl
theorem numOne_f (a b : List UInt8) : emendlaw2_NumOne.f 10 (B a) (B b) = some true := by
  unfold emendlaw2_NumOne.f
  have fa := few_e a 300
  have fb := few_e b 300
  rw [show ((300 : Nat) : Int) = 300 from rfl] at fa fb
  have la : (a.take 300).length ≤ 300 := by rw [List.length_take]; omega
  have lb : (b.take 300).length ≤ 300 := by rw [List.length_take]; omega
  rw [fa, fb, Option.bind_some, Option.bind_some, norm_e _ (by omega), norm_e _ (by omega), Option.bind_some, Option.bind_some]
  generalize a.take 300 = a at *
  generalize b.take 300 = b at *
  simp only
  by_cases h1 : (normL a).2 = 0
  · rw [if_pos h1]
    by_cases h2 : (normL b).2 = 0
    · rw [show ((normL b).2 != 0) = false by simp [h2], emendlaw2_NumOne.j0, if_neg (by decide), cmp_e a b (by omega) (by omega), Option.bind_some, norm_e _ (by have := norm_len h1; omega), Option.bind_some, norm_norm h1]
      obtain ⟨a1, a2, a3, a4, a5⟩ := norm_ok h1
      obtain ⟨b1, b2, b3, b4, b5⟩ := norm_ok h2
      have ec : cmpL a b = (cmpP (splitL a).1 (splitL b).1, 0) := by
        unfold cmpL
        rw [a4, b4]; rfl
      rw [ec]
      simp only [if_true, h1, B_list]
      have hiff : (cmpP (splitL a).1 (splitL b).1 == 0) = ((normL a).1 == (normL b).1) := by
        by_cases hc : cmpP (splitL a).1 (splitL b).1 = 0
        · have hpq := np_eq (splitL_np a) (splitL_np b) hc
          have : (normL a).1 = (normL b).1 := by rw [a2, b2, hpq]
          rw [this, hc]
          simp
        · have : ¬ (normL a).1 = (normL b).1 := by
            intro k
            rw [k, b5] at a5
            have hpq : (splitL a).1 = (splitL b).1 := (congrArg Prod.fst a5).symm
            exact hc (by rw [hpq]; exact Cmp.num.self _)
          rw [beq_eq_false_iff_ne.2 hc, beq_eq_false_iff_ne.2 this]
      rw [hiff]
      rw [if_neg (by simp), show ((normL a).1 != (normL a).1) = false by simp]
      exact numOne_j1 8 a la h1
    · rw [show ((normL b).2 != 0) = true by simpa using h2, emendlaw2_NumOne.j0, if_pos rfl]; rfl
  · rw [if_neg h1, emendlaw2_NumOne.j0, if_pos rfl]; rfl
theorem numOne_true (a b : List UInt8) (w : World) (he : Env w) (ha : a.length ≤ 9223372036854775807) (hb : b.length ≤ 9223372036854775807) :
    Calls Tryd.prog 5 #[.string (B a), .string (B b)] w fun e w' => e = .returned (.bool true) ∧ Below w.heap.size w w' :=
  emendlaw2_NumOne.calls 10 (B a) (B b) true w he (numOne_f a b)
end Go.Proofs.YtjaongknagmfiaaDoor
