-- PRINTED by print.py (a twelfth state) out of the translation. Not trusted: Lean checks it.
import Derived.Test.YtjaongknagmfiaaGreatDoorPWx0
import Derived.Test.YtjaongknagmfiaaGreatDoorPWx1
namespace Go.Proofs.YtjaongknagmfiaaGreatDoor.PW
open Go.RowKit Go.Proofs.YtjaongknagmfiaaGreatDoorW.PrintWords Go.Proofs.YtjaongknagmfiaaGreatDoorW.PrintLast Go.Proofs.YtjaongknagmfiaaGreatDoorW.PrintMore
attribute [local go_sem] max2_int min2_int max_two min_two max_three min_three max_four min_four   -- for this text's walks alone
set_option linter.unusedVariables false
set_option linter.unusedSimpArgs false

/-! ### emendref2_Split: function 9 -/
mutual
def emendref2_Split.j0 : Nat → ByteArray → Int → Bool → Option (Bool × ByteArray × Int × Int)
 | 0, _, _, _ => none
 | k + 1, x0, x4, x24 => if x24 = true then (emendref2_Split.j1 k x0 (wrap64 (x4 + 1))) else (emendref2_Split.j1 k x0 x4)
def emendref2_Split.j1 : Nat → ByteArray → Int → Option (Bool × ByteArray × Int × Int)
 | 0, _, _ => none
 | k + 1, x0, x4 => (emendref2_run.f k x0 x4).bind fun t103 => (if t103 = x4 then (emendref2_Split.j2 k x0 x4 t103 true) else (if 0 ≤ x4 then (if x4 < (x0.size : Int) then (if (bt x0 x4) = 48 then (emendref2_Split.j2 k x0 x4 t103 (decide (t103 > (wrap64 (x4 + 1))))) else (emendref2_Split.j2 k x0 x4 t103 false)) else (none)) else (none)))
def emendref2_Split.j2 : Nat → ByteArray → Int → Int → Bool → Option (Bool × ByteArray × Int × Int)
 | 0, _, _, _, _ => none
 | k + 1, x0, x4, x5, x44 => if x44 = true then (some (false, (⟨#[]⟩ : ByteArray), 0, 12)) else (if 0 ≤ x4 then (if x4 ≤ x5 then (if x5 ≤ (x0.size : Int) then (if x5 < (x0.size : Int) then (if 0 ≤ x5 then (emendref2_Split.j3 k x0 x5 (x0.extract (x4 : Int).toNat (x5 : Int).toNat) (⟨#[]⟩ : ByteArray) ((bt x0 x5) == 46)) else (none)) else (emendref2_Split.j3 k x0 x5 (x0.extract (x4 : Int).toNat (x5 : Int).toNat) (⟨#[]⟩ : ByteArray) false)) else (none)) else (none)) else (none))
def emendref2_Split.j3 : Nat → ByteArray → Int → ByteArray → ByteArray → Bool → Option (Bool × ByteArray × Int × Int)
 | 0, _, _, _, _, _ => none
 | k + 1, x0, x5, x6, x7, x59 => if x59 = true then ((emendref2_run.f k x0 (wrap64 (x5 + 1))).bind fun t104 => (if t104 = (wrap64 (x5 + 1)) then (some (false, (⟨#[]⟩ : ByteArray), 0, 12)) else (if 0 ≤ (wrap64 (x5 + 1)) then (if (wrap64 (x5 + 1)) ≤ t104 then (if t104 ≤ (x0.size : Int) then (emendref2_Split.j4 k x0 t104 x6 (x0.extract ((wrap64 (x5 + 1)) : Int).toNat (t104 : Int).toNat)) else (none)) else (none)) else (none)))) else (emendref2_Split.j4 k x0 x5 x6 x7)
def emendref2_Split.j4 : Nat → ByteArray → Int → ByteArray → ByteArray → Option (Bool × ByteArray × Int × Int)
 | 0, _, _, _, _ => none
 | k + 1, x0, x5, x6, x7 => if x5 < (x0.size : Int) then (if 0 ≤ x5 then (if (bt x0 x5) = 101 then (emendref2_Split.j5 k x0 x5 x6 x7 (⟨#[]⟩ : ByteArray) false true) else (emendref2_Split.j5 k x0 x5 x6 x7 (⟨#[]⟩ : ByteArray) false ((bt x0 x5) == 69))) else (none)) else (emendref2_Split.j5 k x0 x5 x6 x7 (⟨#[]⟩ : ByteArray) false false)
def emendref2_Split.j5 : Nat → ByteArray → Int → ByteArray → ByteArray → ByteArray → Bool → Bool → Option (Bool × ByteArray × Int × Int)
 | 0, _, _, _, _, _, _, _ => none
 | k + 1, x0, x5, x6, x7, x9, x10, x90 => if x90 = true then (if (wrap64 (x5 + 1)) < (x0.size : Int) then (if 0 ≤ (wrap64 (x5 + 1)) then (if (bt x0 (wrap64 (x5 + 1))) = 43 then (emendref2_Split.j6 k x0 (wrap64 (x5 + 1)) x6 x7 x10 true) else (emendref2_Split.j6 k x0 (wrap64 (x5 + 1)) x6 x7 x10 ((bt x0 (wrap64 (x5 + 1))) == 45))) else (none)) else (emendref2_Split.j6 k x0 (wrap64 (x5 + 1)) x6 x7 x10 false)) else (emendref2_Split.j7 k x0 x5 x6 x7 x9 x10)
def emendref2_Split.j7 : Nat → ByteArray → Int → ByteArray → ByteArray → ByteArray → Bool → Option (Bool × ByteArray × Int × Int)
 | 0, _, _, _, _, _, _ => none
 | k + 1, x0, x5, x6, x7, x9, x10 => if x5 = (x0.size : Int) then (if (x0.size : Int) > 1000 then (some (false, (⟨#[]⟩ : ByteArray), 0, 2)) else (emendref2_Split.l0 k x0 x6 x7 x9 x10)) else (some (false, (⟨#[]⟩ : ByteArray), 0, 12))
def emendref2_Split.j9 : Nat → ByteArray → ByteArray → ByteArray → ByteArray → Bool → Option (Bool × ByteArray × Int × Int)
 | 0, _, _, _, _, _ => none
 | k + 1, x0, x6, x7, x9, x10 => if (x9.size : Int) > 6 then (some (false, (⟨#[]⟩ : ByteArray), 0, 5)) else (emendref2_Split.l1 k x0 x6 x7 x9 x10 0 0)
def emendref2_Split.l1 : Nat → ByteArray → ByteArray → ByteArray → ByteArray → Bool → Int → Int → Option (Bool × ByteArray × Int × Int)
 | 0, _, _, _, _, _, _, _ => none
 | k + 1, x0, x6, x7, x9, x10, x12, x13 => if x13 < (x9.size : Int) then (if 0 ≤ x13 then (emendref2_Split.l1 k x0 x6 x7 x9 x10 (wrap64 ((wrap64 (x12 * 10)) + (((bt x9 x13) - 48) % 256))) (wrap64 (x13 + 1))) else (none)) else (if x10 = true then (emendref2_Split.j11 k x0 x6 x7 (wrap64 (-x12))) else (emendref2_Split.j11 k x0 x6 x7 x12))
def emendref2_Split.j11 : Nat → ByteArray → ByteArray → ByteArray → Int → Option (Bool × ByteArray × Int × Int)
 | 0, _, _, _, _ => none
 | k + 1, x0, x6, x7, x12 => if x6.size + x7.size ≤ 9223372036854775807 then (emendref2_Split.l2 k x0 (wrap64 (x12 - (x7.size : Int))) (x6 ++ x7)) else (none)
def emendref2_Split.j13 : Nat → ByteArray → Int → ByteArray → Option (Bool × ByteArray × Int × Int)
 | 0, _, _, _ => none
 | k + 1, x0, x12, x14 => emendref2_Split.l3 k x0 x12 x14
def emendref2_Split.l3 : Nat → ByteArray → Int → ByteArray → Option (Bool × ByteArray × Int × Int)
 | 0, _, _, _ => none
 | k + 1, x0, x12, x14 => if (x14.size : Int) > 0 then (if 0 < (x14.size : Int) then (if (bt x14 0) = 48 then (if 1 ≤ (x14.size : Int) then (emendref2_Split.l3 k x0 x12 (x14.extract 1 x14.size)) else (none)) else (if x14.toList = ([] : List UInt8) then (some (false, (⟨#[]⟩ : ByteArray), 0, 0)) else (if 0 < (x0.size : Int) then (some (((bt x0 0) == 45), x14, x12, 0)) else (none)))) else (none)) else (if x14.toList = ([] : List UInt8) then (some (false, (⟨#[]⟩ : ByteArray), 0, 0)) else (if 0 < (x0.size : Int) then (some (((bt x0 0) == 45), x14, x12, 0)) else (none)))
def emendref2_Split.l2 : Nat → ByteArray → Int → ByteArray → Option (Bool × ByteArray × Int × Int)
 | 0, _, _, _ => none
 | k + 1, x0, x12, x14 => if (x14.size : Int) > 0 then (if 0 ≤ (wrap64 ((x14.size : Int) - 1)) then (if (wrap64 ((x14.size : Int) - 1)) < (x14.size : Int) then (if (bt x14 (wrap64 ((x14.size : Int) - 1))) = 48 then (if (wrap64 ((x14.size : Int) - 1)) ≤ (x14.size : Int) then (emendref2_Split.l2 k x0 (wrap64 (x12 + 1)) (x14.extract 0 ((wrap64 ((x14.size : Int) - 1)) : Int).toNat)) else (none)) else (emendref2_Split.j13 k x0 x12 x14)) else (none)) else (none)) else (emendref2_Split.j13 k x0 x12 x14)
def emendref2_Split.l0 : Nat → ByteArray → ByteArray → ByteArray → ByteArray → Bool → Option (Bool × ByteArray × Int × Int)
 | 0, _, _, _, _, _ => none
 | k + 1, x0, x6, x7, x9, x10 => if (x9.size : Int) > 0 then (if 0 < (x9.size : Int) then (if (bt x9 0) = 48 then (if 1 ≤ (x9.size : Int) then (emendref2_Split.l0 k x0 x6 x7 (x9.extract 1 x9.size) x10) else (none)) else (emendref2_Split.j9 k x0 x6 x7 x9 x10)) else (none)) else (emendref2_Split.j9 k x0 x6 x7 x9 x10)
def emendref2_Split.j6 : Nat → ByteArray → Int → ByteArray → ByteArray → Bool → Bool → Option (Bool × ByteArray × Int × Int)
 | 0, _, _, _, _, _, _ => none
 | k + 1, x0, x5, x6, x7, x10, x108 => if x108 = true then (if 0 ≤ x5 then (if x5 < (x0.size : Int) then ((emendref2_run.f k x0 (wrap64 (x5 + 1))).bind fun t105 => (if t105 = (wrap64 (x5 + 1)) then (some (false, (⟨#[]⟩ : ByteArray), 0, 12)) else (if 0 ≤ (wrap64 (x5 + 1)) then (if (wrap64 (x5 + 1)) ≤ t105 then (if t105 ≤ (x0.size : Int) then (emendref2_Split.j7 k x0 t105 x6 x7 (x0.extract ((wrap64 (x5 + 1)) : Int).toNat (t105 : Int).toNat) ((bt x0 x5) == 45)) else (none)) else (none)) else (none)))) else (none)) else (none)) else ((emendref2_run.f k x0 x5).bind fun t106 => (if t106 = x5 then (some (false, (⟨#[]⟩ : ByteArray), 0, 12)) else (if 0 ≤ x5 then (if x5 ≤ t106 then (if t106 ≤ (x0.size : Int) then (emendref2_Split.j7 k x0 t106 x6 x7 (x0.extract (x5 : Int).toNat (t106 : Int).toNat) x10) else (none)) else (none)) else (none))))
end
def emendref2_Split.f (k : Nat) (a0 : ByteArray) : Option (Bool × ByteArray × Int × Int) := if 0 < (a0.size : Int) then (emendref2_Split.j0 k a0 0 ((bt a0 0) == 45)) else (emendref2_Split.j0 k a0 0 false)
theorem emendref2_Split.mono_l : ∀ k, (∀ y0 y1 y2, LeO (emendref2_Split.j0 k y0 y1 y2) (emendref2_Split.j0 (k + 1) y0 y1 y2)) ∧ (∀ y0 y1, LeO (emendref2_Split.j1 k y0 y1) (emendref2_Split.j1 (k + 1) y0 y1)) ∧ (∀ y0 y1 y2 y3, LeO (emendref2_Split.j2 k y0 y1 y2 y3) (emendref2_Split.j2 (k + 1) y0 y1 y2 y3)) ∧ (∀ y0 y1 y2 y3 y4, LeO (emendref2_Split.j3 k y0 y1 y2 y3 y4) (emendref2_Split.j3 (k + 1) y0 y1 y2 y3 y4)) ∧ (∀ y0 y1 y2 y3, LeO (emendref2_Split.j4 k y0 y1 y2 y3) (emendref2_Split.j4 (k + 1) y0 y1 y2 y3)) ∧ (∀ y0 y1 y2 y3 y4 y5 y6, LeO (emendref2_Split.j5 k y0 y1 y2 y3 y4 y5 y6) (emendref2_Split.j5 (k + 1) y0 y1 y2 y3 y4 y5 y6)) ∧ (∀ y0 y1 y2 y3 y4 y5, LeO (emendref2_Split.j7 k y0 y1 y2 y3 y4 y5) (emendref2_Split.j7 (k + 1) y0 y1 y2 y3 y4 y5)) ∧ (∀ y0 y1 y2 y3 y4, LeO (emendref2_Split.j9 k y0 y1 y2 y3 y4) (emendref2_Split.j9 (k + 1) y0 y1 y2 y3 y4)) ∧ (∀ y0 y1 y2 y3 y4 y5 y6, LeO (emendref2_Split.l1 k y0 y1 y2 y3 y4 y5 y6) (emendref2_Split.l1 (k + 1) y0 y1 y2 y3 y4 y5 y6)) ∧ (∀ y0 y1 y2 y3, LeO (emendref2_Split.j11 k y0 y1 y2 y3) (emendref2_Split.j11 (k + 1) y0 y1 y2 y3)) ∧ (∀ y0 y1 y2, LeO (emendref2_Split.j13 k y0 y1 y2) (emendref2_Split.j13 (k + 1) y0 y1 y2)) ∧ (∀ y0 y1 y2, LeO (emendref2_Split.l3 k y0 y1 y2) (emendref2_Split.l3 (k + 1) y0 y1 y2)) ∧ (∀ y0 y1 y2, LeO (emendref2_Split.l2 k y0 y1 y2) (emendref2_Split.l2 (k + 1) y0 y1 y2)) ∧ (∀ y0 y1 y2 y3 y4, LeO (emendref2_Split.l0 k y0 y1 y2 y3 y4) (emendref2_Split.l0 (k + 1) y0 y1 y2 y3 y4)) ∧ (∀ y0 y1 y2 y3 y4 y5, LeO (emendref2_Split.j6 k y0 y1 y2 y3 y4 y5) (emendref2_Split.j6 (k + 1) y0 y1 y2 y3 y4 y5))
 | 0 => ⟨fun _ _ _ r h => by simp [emendref2_Split.j0] at h, fun _ _ r h => by simp [emendref2_Split.j1] at h, fun _ _ _ _ r h => by simp [emendref2_Split.j2] at h, fun _ _ _ _ _ r h => by simp [emendref2_Split.j3] at h, fun _ _ _ _ r h => by simp [emendref2_Split.j4] at h, fun _ _ _ _ _ _ _ r h => by simp [emendref2_Split.j5] at h, fun _ _ _ _ _ _ r h => by simp [emendref2_Split.j7] at h, fun _ _ _ _ _ r h => by simp [emendref2_Split.j9] at h, fun _ _ _ _ _ _ _ r h => by simp [emendref2_Split.l1] at h, fun _ _ _ _ r h => by simp [emendref2_Split.j11] at h, fun _ _ _ r h => by simp [emendref2_Split.j13] at h, fun _ _ _ r h => by simp [emendref2_Split.l3] at h, fun _ _ _ r h => by simp [emendref2_Split.l2] at h, fun _ _ _ _ _ r h => by simp [emendref2_Split.l0] at h, fun _ _ _ _ _ _ r h => by simp [emendref2_Split.j6] at h⟩
 | k + 1 => by
  obtain ⟨ih0, ih1, ih2, ih3, ih4, ih5, ih6, ih7, ih8, ih9, ih10, ih11, ih12, ih13, ih14⟩ := emendref2_Split.mono_l k
  refine ⟨?_, ?_, ?_, ?_, ?_, ?_, ?_, ?_, ?_, ?_, ?_, ?_, ?_, ?_, ?_⟩
  ·
   intro y0 y1 y2
   unfold emendref2_Split.j0
   repeat' first
   | (with_reducible exact ih0 _ _ _)
   | (with_reducible exact ih1 _ _)
   | (with_reducible exact ih2 _ _ _ _)
   | (with_reducible exact ih3 _ _ _ _ _)
   | (with_reducible exact ih4 _ _ _ _)
   | (with_reducible exact ih5 _ _ _ _ _ _ _)
   | (with_reducible exact ih6 _ _ _ _ _ _)
   | (with_reducible exact ih7 _ _ _ _ _)
   | (with_reducible exact ih8 _ _ _ _ _ _ _)
   | (with_reducible exact ih9 _ _ _ _)
   | (with_reducible exact ih10 _ _ _)
   | (with_reducible exact ih11 _ _ _)
   | (with_reducible exact ih12 _ _ _)
   | (with_reducible exact ih13 _ _ _ _ _)
   | (with_reducible exact ih14 _ _ _ _ _ _)
   | (with_reducible exact emendref2_run.mono _ _ _)
   | (with_reducible exact LeO.refl _)
   | (with_reducible exact LeO.none _)
   | (with_reducible refine LeO.ite ?_ ?_)
   | (with_reducible refine LeO.bind ?_ (fun _ => ?_))
   | exact ih0 _ _ _
   | exact ih1 _ _
   | exact ih2 _ _ _ _
   | exact ih3 _ _ _ _ _
   | exact ih4 _ _ _ _
   | exact ih5 _ _ _ _ _ _ _
   | exact ih6 _ _ _ _ _ _
   | exact ih7 _ _ _ _ _
   | exact ih8 _ _ _ _ _ _ _
   | exact ih9 _ _ _ _
   | exact ih10 _ _ _
   | exact ih11 _ _ _
   | exact ih12 _ _ _
   | exact ih13 _ _ _ _ _
   | exact ih14 _ _ _ _ _ _
   | exact emendref2_run.mono _ _ _
   | exact LeO.none _
   | refine LeO.ite ?_ ?_
   | refine LeO.bind ?_ (fun _ => ?_)
  ·
   intro y0 y1
   unfold emendref2_Split.j1
   repeat' first
   | (with_reducible exact ih0 _ _ _)
   | (with_reducible exact ih1 _ _)
   | (with_reducible exact ih2 _ _ _ _)
   | (with_reducible exact ih3 _ _ _ _ _)
   | (with_reducible exact ih4 _ _ _ _)
   | (with_reducible exact ih5 _ _ _ _ _ _ _)
   | (with_reducible exact ih6 _ _ _ _ _ _)
   | (with_reducible exact ih7 _ _ _ _ _)
   | (with_reducible exact ih8 _ _ _ _ _ _ _)
   | (with_reducible exact ih9 _ _ _ _)
   | (with_reducible exact ih10 _ _ _)
   | (with_reducible exact ih11 _ _ _)
   | (with_reducible exact ih12 _ _ _)
   | (with_reducible exact ih13 _ _ _ _ _)
   | (with_reducible exact ih14 _ _ _ _ _ _)
   | (with_reducible exact emendref2_run.mono _ _ _)
   | (with_reducible exact LeO.refl _)
   | (with_reducible exact LeO.none _)
   | (with_reducible refine LeO.ite ?_ ?_)
   | (with_reducible refine LeO.bind ?_ (fun _ => ?_))
   | exact ih0 _ _ _
   | exact ih1 _ _
   | exact ih2 _ _ _ _
   | exact ih3 _ _ _ _ _
   | exact ih4 _ _ _ _
   | exact ih5 _ _ _ _ _ _ _
   | exact ih6 _ _ _ _ _ _
   | exact ih7 _ _ _ _ _
   | exact ih8 _ _ _ _ _ _ _
   | exact ih9 _ _ _ _
   | exact ih10 _ _ _
   | exact ih11 _ _ _
   | exact ih12 _ _ _
   | exact ih13 _ _ _ _ _
   | exact ih14 _ _ _ _ _ _
   | exact emendref2_run.mono _ _ _
   | exact LeO.none _
   | refine LeO.ite ?_ ?_
   | refine LeO.bind ?_ (fun _ => ?_)
  ·
   intro y0 y1 y2 y3
   unfold emendref2_Split.j2
   repeat' first
   | (with_reducible exact ih0 _ _ _)
   | (with_reducible exact ih1 _ _)
   | (with_reducible exact ih2 _ _ _ _)
   | (with_reducible exact ih3 _ _ _ _ _)
   | (with_reducible exact ih4 _ _ _ _)
   | (with_reducible exact ih5 _ _ _ _ _ _ _)
   | (with_reducible exact ih6 _ _ _ _ _ _)
   | (with_reducible exact ih7 _ _ _ _ _)
   | (with_reducible exact ih8 _ _ _ _ _ _ _)
   | (with_reducible exact ih9 _ _ _ _)
   | (with_reducible exact ih10 _ _ _)
   | (with_reducible exact ih11 _ _ _)
   | (with_reducible exact ih12 _ _ _)
   | (with_reducible exact ih13 _ _ _ _ _)
   | (with_reducible exact ih14 _ _ _ _ _ _)
   | (with_reducible exact emendref2_run.mono _ _ _)
   | (with_reducible exact LeO.refl _)
   | (with_reducible exact LeO.none _)
   | (with_reducible refine LeO.ite ?_ ?_)
   | (with_reducible refine LeO.bind ?_ (fun _ => ?_))
   | exact ih0 _ _ _
   | exact ih1 _ _
   | exact ih2 _ _ _ _
   | exact ih3 _ _ _ _ _
   | exact ih4 _ _ _ _
   | exact ih5 _ _ _ _ _ _ _
   | exact ih6 _ _ _ _ _ _
   | exact ih7 _ _ _ _ _
   | exact ih8 _ _ _ _ _ _ _
   | exact ih9 _ _ _ _
   | exact ih10 _ _ _
   | exact ih11 _ _ _
   | exact ih12 _ _ _
   | exact ih13 _ _ _ _ _
   | exact ih14 _ _ _ _ _ _
   | exact emendref2_run.mono _ _ _
   | exact LeO.none _
   | refine LeO.ite ?_ ?_
   | refine LeO.bind ?_ (fun _ => ?_)
  ·
   intro y0 y1 y2 y3 y4
   unfold emendref2_Split.j3
   repeat' first
   | (with_reducible exact ih0 _ _ _)
   | (with_reducible exact ih1 _ _)
   | (with_reducible exact ih2 _ _ _ _)
   | (with_reducible exact ih3 _ _ _ _ _)
   | (with_reducible exact ih4 _ _ _ _)
   | (with_reducible exact ih5 _ _ _ _ _ _ _)
   | (with_reducible exact ih6 _ _ _ _ _ _)
   | (with_reducible exact ih7 _ _ _ _ _)
   | (with_reducible exact ih8 _ _ _ _ _ _ _)
   | (with_reducible exact ih9 _ _ _ _)
   | (with_reducible exact ih10 _ _ _)
   | (with_reducible exact ih11 _ _ _)
   | (with_reducible exact ih12 _ _ _)
   | (with_reducible exact ih13 _ _ _ _ _)
   | (with_reducible exact ih14 _ _ _ _ _ _)
   | (with_reducible exact emendref2_run.mono _ _ _)
   | (with_reducible exact LeO.refl _)
   | (with_reducible exact LeO.none _)
   | (with_reducible refine LeO.ite ?_ ?_)
   | (with_reducible refine LeO.bind ?_ (fun _ => ?_))
   | exact ih0 _ _ _
   | exact ih1 _ _
   | exact ih2 _ _ _ _
   | exact ih3 _ _ _ _ _
   | exact ih4 _ _ _ _
   | exact ih5 _ _ _ _ _ _ _
   | exact ih6 _ _ _ _ _ _
   | exact ih7 _ _ _ _ _
   | exact ih8 _ _ _ _ _ _ _
   | exact ih9 _ _ _ _
   | exact ih10 _ _ _
   | exact ih11 _ _ _
   | exact ih12 _ _ _
   | exact ih13 _ _ _ _ _
   | exact ih14 _ _ _ _ _ _
   | exact emendref2_run.mono _ _ _
   | exact LeO.none _
   | refine LeO.ite ?_ ?_
   | refine LeO.bind ?_ (fun _ => ?_)
  ·
   intro y0 y1 y2 y3
   unfold emendref2_Split.j4
   repeat' first
   | (with_reducible exact ih0 _ _ _)
   | (with_reducible exact ih1 _ _)
   | (with_reducible exact ih2 _ _ _ _)
   | (with_reducible exact ih3 _ _ _ _ _)
   | (with_reducible exact ih4 _ _ _ _)
   | (with_reducible exact ih5 _ _ _ _ _ _ _)
   | (with_reducible exact ih6 _ _ _ _ _ _)
   | (with_reducible exact ih7 _ _ _ _ _)
   | (with_reducible exact ih8 _ _ _ _ _ _ _)
   | (with_reducible exact ih9 _ _ _ _)
   | (with_reducible exact ih10 _ _ _)
   | (with_reducible exact ih11 _ _ _)
   | (with_reducible exact ih12 _ _ _)
   | (with_reducible exact ih13 _ _ _ _ _)
   | (with_reducible exact ih14 _ _ _ _ _ _)
   | (with_reducible exact emendref2_run.mono _ _ _)
   | (with_reducible exact LeO.refl _)
   | (with_reducible exact LeO.none _)
   | (with_reducible refine LeO.ite ?_ ?_)
   | (with_reducible refine LeO.bind ?_ (fun _ => ?_))
   | exact ih0 _ _ _
   | exact ih1 _ _
   | exact ih2 _ _ _ _
   | exact ih3 _ _ _ _ _
   | exact ih4 _ _ _ _
   | exact ih5 _ _ _ _ _ _ _
   | exact ih6 _ _ _ _ _ _
   | exact ih7 _ _ _ _ _
   | exact ih8 _ _ _ _ _ _ _
   | exact ih9 _ _ _ _
   | exact ih10 _ _ _
   | exact ih11 _ _ _
   | exact ih12 _ _ _
   | exact ih13 _ _ _ _ _
   | exact ih14 _ _ _ _ _ _
   | exact emendref2_run.mono _ _ _
   | exact LeO.none _
   | refine LeO.ite ?_ ?_
   | refine LeO.bind ?_ (fun _ => ?_)
  ·
   intro y0 y1 y2 y3 y4 y5 y6
   unfold emendref2_Split.j5
   repeat' first
   | (with_reducible exact ih0 _ _ _)
   | (with_reducible exact ih1 _ _)
   | (with_reducible exact ih2 _ _ _ _)
   | (with_reducible exact ih3 _ _ _ _ _)
   | (with_reducible exact ih4 _ _ _ _)
   | (with_reducible exact ih5 _ _ _ _ _ _ _)
   | (with_reducible exact ih6 _ _ _ _ _ _)
   | (with_reducible exact ih7 _ _ _ _ _)
   | (with_reducible exact ih8 _ _ _ _ _ _ _)
   | (with_reducible exact ih9 _ _ _ _)
   | (with_reducible exact ih10 _ _ _)
   | (with_reducible exact ih11 _ _ _)
   | (with_reducible exact ih12 _ _ _)
   | (with_reducible exact ih13 _ _ _ _ _)
   | (with_reducible exact ih14 _ _ _ _ _ _)
   | (with_reducible exact emendref2_run.mono _ _ _)
   | (with_reducible exact LeO.refl _)
   | (with_reducible exact LeO.none _)
   | (with_reducible refine LeO.ite ?_ ?_)
   | (with_reducible refine LeO.bind ?_ (fun _ => ?_))
   | exact ih0 _ _ _
   | exact ih1 _ _
   | exact ih2 _ _ _ _
   | exact ih3 _ _ _ _ _
   | exact ih4 _ _ _ _
   | exact ih5 _ _ _ _ _ _ _
   | exact ih6 _ _ _ _ _ _
   | exact ih7 _ _ _ _ _
   | exact ih8 _ _ _ _ _ _ _
   | exact ih9 _ _ _ _
   | exact ih10 _ _ _
   | exact ih11 _ _ _
   | exact ih12 _ _ _
   | exact ih13 _ _ _ _ _
   | exact ih14 _ _ _ _ _ _
   | exact emendref2_run.mono _ _ _
   | exact LeO.none _
   | refine LeO.ite ?_ ?_
   | refine LeO.bind ?_ (fun _ => ?_)
  ·
   intro y0 y1 y2 y3 y4 y5
   unfold emendref2_Split.j7
   repeat' first
   | (with_reducible exact ih0 _ _ _)
   | (with_reducible exact ih1 _ _)
   | (with_reducible exact ih2 _ _ _ _)
   | (with_reducible exact ih3 _ _ _ _ _)
   | (with_reducible exact ih4 _ _ _ _)
   | (with_reducible exact ih5 _ _ _ _ _ _ _)
   | (with_reducible exact ih6 _ _ _ _ _ _)
   | (with_reducible exact ih7 _ _ _ _ _)
   | (with_reducible exact ih8 _ _ _ _ _ _ _)
   | (with_reducible exact ih9 _ _ _ _)
   | (with_reducible exact ih10 _ _ _)
   | (with_reducible exact ih11 _ _ _)
   | (with_reducible exact ih12 _ _ _)
   | (with_reducible exact ih13 _ _ _ _ _)
   | (with_reducible exact ih14 _ _ _ _ _ _)
   | (with_reducible exact emendref2_run.mono _ _ _)
   | (with_reducible exact LeO.refl _)
   | (with_reducible exact LeO.none _)
   | (with_reducible refine LeO.ite ?_ ?_)
   | (with_reducible refine LeO.bind ?_ (fun _ => ?_))
   | exact ih0 _ _ _
   | exact ih1 _ _
   | exact ih2 _ _ _ _
   | exact ih3 _ _ _ _ _
   | exact ih4 _ _ _ _
   | exact ih5 _ _ _ _ _ _ _
   | exact ih6 _ _ _ _ _ _
   | exact ih7 _ _ _ _ _
   | exact ih8 _ _ _ _ _ _ _
   | exact ih9 _ _ _ _
   | exact ih10 _ _ _
   | exact ih11 _ _ _
   | exact ih12 _ _ _
   | exact ih13 _ _ _ _ _
   | exact ih14 _ _ _ _ _ _
   | exact emendref2_run.mono _ _ _
   | exact LeO.none _
   | refine LeO.ite ?_ ?_
   | refine LeO.bind ?_ (fun _ => ?_)
  ·
   intro y0 y1 y2 y3 y4
   unfold emendref2_Split.j9
   repeat' first
   | (with_reducible exact ih0 _ _ _)
   | (with_reducible exact ih1 _ _)
   | (with_reducible exact ih2 _ _ _ _)
   | (with_reducible exact ih3 _ _ _ _ _)
   | (with_reducible exact ih4 _ _ _ _)
   | (with_reducible exact ih5 _ _ _ _ _ _ _)
   | (with_reducible exact ih6 _ _ _ _ _ _)
   | (with_reducible exact ih7 _ _ _ _ _)
   | (with_reducible exact ih8 _ _ _ _ _ _ _)
   | (with_reducible exact ih9 _ _ _ _)
   | (with_reducible exact ih10 _ _ _)
   | (with_reducible exact ih11 _ _ _)
   | (with_reducible exact ih12 _ _ _)
   | (with_reducible exact ih13 _ _ _ _ _)
   | (with_reducible exact ih14 _ _ _ _ _ _)
   | (with_reducible exact emendref2_run.mono _ _ _)
   | (with_reducible exact LeO.refl _)
   | (with_reducible exact LeO.none _)
   | (with_reducible refine LeO.ite ?_ ?_)
   | (with_reducible refine LeO.bind ?_ (fun _ => ?_))
   | exact ih0 _ _ _
   | exact ih1 _ _
   | exact ih2 _ _ _ _
   | exact ih3 _ _ _ _ _
   | exact ih4 _ _ _ _
   | exact ih5 _ _ _ _ _ _ _
   | exact ih6 _ _ _ _ _ _
   | exact ih7 _ _ _ _ _
   | exact ih8 _ _ _ _ _ _ _
   | exact ih9 _ _ _ _
   | exact ih10 _ _ _
   | exact ih11 _ _ _
   | exact ih12 _ _ _
   | exact ih13 _ _ _ _ _
   | exact ih14 _ _ _ _ _ _
   | exact emendref2_run.mono _ _ _
   | exact LeO.none _
   | refine LeO.ite ?_ ?_
   | refine LeO.bind ?_ (fun _ => ?_)
  ·
   intro y0 y1 y2 y3 y4 y5 y6
   unfold emendref2_Split.l1
   repeat' first
   | (with_reducible exact ih0 _ _ _)
   | (with_reducible exact ih1 _ _)
   | (with_reducible exact ih2 _ _ _ _)
   | (with_reducible exact ih3 _ _ _ _ _)
   | (with_reducible exact ih4 _ _ _ _)
   | (with_reducible exact ih5 _ _ _ _ _ _ _)
   | (with_reducible exact ih6 _ _ _ _ _ _)
   | (with_reducible exact ih7 _ _ _ _ _)
   | (with_reducible exact ih8 _ _ _ _ _ _ _)
   | (with_reducible exact ih9 _ _ _ _)
   | (with_reducible exact ih10 _ _ _)
   | (with_reducible exact ih11 _ _ _)
   | (with_reducible exact ih12 _ _ _)
   | (with_reducible exact ih13 _ _ _ _ _)
   | (with_reducible exact ih14 _ _ _ _ _ _)
   | (with_reducible exact emendref2_run.mono _ _ _)
   | (with_reducible exact LeO.refl _)
   | (with_reducible exact LeO.none _)
   | (with_reducible refine LeO.ite ?_ ?_)
   | (with_reducible refine LeO.bind ?_ (fun _ => ?_))
   | exact ih0 _ _ _
   | exact ih1 _ _
   | exact ih2 _ _ _ _
   | exact ih3 _ _ _ _ _
   | exact ih4 _ _ _ _
   | exact ih5 _ _ _ _ _ _ _
   | exact ih6 _ _ _ _ _ _
   | exact ih7 _ _ _ _ _
   | exact ih8 _ _ _ _ _ _ _
   | exact ih9 _ _ _ _
   | exact ih10 _ _ _
   | exact ih11 _ _ _
   | exact ih12 _ _ _
   | exact ih13 _ _ _ _ _
   | exact ih14 _ _ _ _ _ _
   | exact emendref2_run.mono _ _ _
   | exact LeO.none _
   | refine LeO.ite ?_ ?_
   | refine LeO.bind ?_ (fun _ => ?_)
  ·
   intro y0 y1 y2 y3
   unfold emendref2_Split.j11
   repeat' first
   | (with_reducible exact ih0 _ _ _)
   | (with_reducible exact ih1 _ _)
   | (with_reducible exact ih2 _ _ _ _)
   | (with_reducible exact ih3 _ _ _ _ _)
   | (with_reducible exact ih4 _ _ _ _)
   | (with_reducible exact ih5 _ _ _ _ _ _ _)
   | (with_reducible exact ih6 _ _ _ _ _ _)
   | (with_reducible exact ih7 _ _ _ _ _)
   | (with_reducible exact ih8 _ _ _ _ _ _ _)
   | (with_reducible exact ih9 _ _ _ _)
   | (with_reducible exact ih10 _ _ _)
   | (with_reducible exact ih11 _ _ _)
   | (with_reducible exact ih12 _ _ _)
   | (with_reducible exact ih13 _ _ _ _ _)
   | (with_reducible exact ih14 _ _ _ _ _ _)
   | (with_reducible exact emendref2_run.mono _ _ _)
   | (with_reducible exact LeO.refl _)
   | (with_reducible exact LeO.none _)
   | (with_reducible refine LeO.ite ?_ ?_)
   | (with_reducible refine LeO.bind ?_ (fun _ => ?_))
   | exact ih0 _ _ _
   | exact ih1 _ _
   | exact ih2 _ _ _ _
   | exact ih3 _ _ _ _ _
   | exact ih4 _ _ _ _
   | exact ih5 _ _ _ _ _ _ _
   | exact ih6 _ _ _ _ _ _
   | exact ih7 _ _ _ _ _
   | exact ih8 _ _ _ _ _ _ _
   | exact ih9 _ _ _ _
   | exact ih10 _ _ _
   | exact ih11 _ _ _
   | exact ih12 _ _ _
   | exact ih13 _ _ _ _ _
   | exact ih14 _ _ _ _ _ _
   | exact emendref2_run.mono _ _ _
   | exact LeO.none _
   | refine LeO.ite ?_ ?_
   | refine LeO.bind ?_ (fun _ => ?_)
  ·
   intro y0 y1 y2
   unfold emendref2_Split.j13
   repeat' first
   | (with_reducible exact ih0 _ _ _)
   | (with_reducible exact ih1 _ _)
   | (with_reducible exact ih2 _ _ _ _)
   | (with_reducible exact ih3 _ _ _ _ _)
   | (with_reducible exact ih4 _ _ _ _)
   | (with_reducible exact ih5 _ _ _ _ _ _ _)
   | (with_reducible exact ih6 _ _ _ _ _ _)
   | (with_reducible exact ih7 _ _ _ _ _)
   | (with_reducible exact ih8 _ _ _ _ _ _ _)
   | (with_reducible exact ih9 _ _ _ _)
   | (with_reducible exact ih10 _ _ _)
   | (with_reducible exact ih11 _ _ _)
   | (with_reducible exact ih12 _ _ _)
   | (with_reducible exact ih13 _ _ _ _ _)
   | (with_reducible exact ih14 _ _ _ _ _ _)
   | (with_reducible exact emendref2_run.mono _ _ _)
   | (with_reducible exact LeO.refl _)
   | (with_reducible exact LeO.none _)
   | (with_reducible refine LeO.ite ?_ ?_)
   | (with_reducible refine LeO.bind ?_ (fun _ => ?_))
   | exact ih0 _ _ _
   | exact ih1 _ _
   | exact ih2 _ _ _ _
   | exact ih3 _ _ _ _ _
   | exact ih4 _ _ _ _
   | exact ih5 _ _ _ _ _ _ _
   | exact ih6 _ _ _ _ _ _
   | exact ih7 _ _ _ _ _
   | exact ih8 _ _ _ _ _ _ _
   | exact ih9 _ _ _ _
   | exact ih10 _ _ _
   | exact ih11 _ _ _
   | exact ih12 _ _ _
   | exact ih13 _ _ _ _ _
   | exact ih14 _ _ _ _ _ _
   | exact emendref2_run.mono _ _ _
   | exact LeO.none _
   | refine LeO.ite ?_ ?_
   | refine LeO.bind ?_ (fun _ => ?_)
  ·
   intro y0 y1 y2
   unfold emendref2_Split.l3
   repeat' first
   | (with_reducible exact ih0 _ _ _)
   | (with_reducible exact ih1 _ _)
   | (with_reducible exact ih2 _ _ _ _)
   | (with_reducible exact ih3 _ _ _ _ _)
   | (with_reducible exact ih4 _ _ _ _)
   | (with_reducible exact ih5 _ _ _ _ _ _ _)
   | (with_reducible exact ih6 _ _ _ _ _ _)
   | (with_reducible exact ih7 _ _ _ _ _)
   | (with_reducible exact ih8 _ _ _ _ _ _ _)
   | (with_reducible exact ih9 _ _ _ _)
   | (with_reducible exact ih10 _ _ _)
   | (with_reducible exact ih11 _ _ _)
   | (with_reducible exact ih12 _ _ _)
   | (with_reducible exact ih13 _ _ _ _ _)
   | (with_reducible exact ih14 _ _ _ _ _ _)
   | (with_reducible exact emendref2_run.mono _ _ _)
   | (with_reducible exact LeO.refl _)
   | (with_reducible exact LeO.none _)
   | (with_reducible refine LeO.ite ?_ ?_)
   | (with_reducible refine LeO.bind ?_ (fun _ => ?_))
   | exact ih0 _ _ _
   | exact ih1 _ _
   | exact ih2 _ _ _ _
   | exact ih3 _ _ _ _ _
   | exact ih4 _ _ _ _
   | exact ih5 _ _ _ _ _ _ _
   | exact ih6 _ _ _ _ _ _
   | exact ih7 _ _ _ _ _
   | exact ih8 _ _ _ _ _ _ _
   | exact ih9 _ _ _ _
   | exact ih10 _ _ _
   | exact ih11 _ _ _
   | exact ih12 _ _ _
   | exact ih13 _ _ _ _ _
   | exact ih14 _ _ _ _ _ _
   | exact emendref2_run.mono _ _ _
   | exact LeO.none _
   | refine LeO.ite ?_ ?_
   | refine LeO.bind ?_ (fun _ => ?_)
  ·
   intro y0 y1 y2
   unfold emendref2_Split.l2
   repeat' first
   | (with_reducible exact ih0 _ _ _)
   | (with_reducible exact ih1 _ _)
   | (with_reducible exact ih2 _ _ _ _)
   | (with_reducible exact ih3 _ _ _ _ _)
   | (with_reducible exact ih4 _ _ _ _)
   | (with_reducible exact ih5 _ _ _ _ _ _ _)
   | (with_reducible exact ih6 _ _ _ _ _ _)
   | (with_reducible exact ih7 _ _ _ _ _)
   | (with_reducible exact ih8 _ _ _ _ _ _ _)
   | (with_reducible exact ih9 _ _ _ _)
   | (with_reducible exact ih10 _ _ _)
   | (with_reducible exact ih11 _ _ _)
   | (with_reducible exact ih12 _ _ _)
   | (with_reducible exact ih13 _ _ _ _ _)
   | (with_reducible exact ih14 _ _ _ _ _ _)
   | (with_reducible exact emendref2_run.mono _ _ _)
   | (with_reducible exact LeO.refl _)
   | (with_reducible exact LeO.none _)
   | (with_reducible refine LeO.ite ?_ ?_)
   | (with_reducible refine LeO.bind ?_ (fun _ => ?_))
   | exact ih0 _ _ _
   | exact ih1 _ _
   | exact ih2 _ _ _ _
   | exact ih3 _ _ _ _ _
   | exact ih4 _ _ _ _
   | exact ih5 _ _ _ _ _ _ _
   | exact ih6 _ _ _ _ _ _
   | exact ih7 _ _ _ _ _
   | exact ih8 _ _ _ _ _ _ _
   | exact ih9 _ _ _ _
   | exact ih10 _ _ _
   | exact ih11 _ _ _
   | exact ih12 _ _ _
   | exact ih13 _ _ _ _ _
   | exact ih14 _ _ _ _ _ _
   | exact emendref2_run.mono _ _ _
   | exact LeO.none _
   | refine LeO.ite ?_ ?_
   | refine LeO.bind ?_ (fun _ => ?_)
  ·
   intro y0 y1 y2 y3 y4
   unfold emendref2_Split.l0
   repeat' first
   | (with_reducible exact ih0 _ _ _)
   | (with_reducible exact ih1 _ _)
   | (with_reducible exact ih2 _ _ _ _)
   | (with_reducible exact ih3 _ _ _ _ _)
   | (with_reducible exact ih4 _ _ _ _)
   | (with_reducible exact ih5 _ _ _ _ _ _ _)
   | (with_reducible exact ih6 _ _ _ _ _ _)
   | (with_reducible exact ih7 _ _ _ _ _)
   | (with_reducible exact ih8 _ _ _ _ _ _ _)
   | (with_reducible exact ih9 _ _ _ _)
   | (with_reducible exact ih10 _ _ _)
   | (with_reducible exact ih11 _ _ _)
   | (with_reducible exact ih12 _ _ _)
   | (with_reducible exact ih13 _ _ _ _ _)
   | (with_reducible exact ih14 _ _ _ _ _ _)
   | (with_reducible exact emendref2_run.mono _ _ _)
   | (with_reducible exact LeO.refl _)
   | (with_reducible exact LeO.none _)
   | (with_reducible refine LeO.ite ?_ ?_)
   | (with_reducible refine LeO.bind ?_ (fun _ => ?_))
   | exact ih0 _ _ _
   | exact ih1 _ _
   | exact ih2 _ _ _ _
   | exact ih3 _ _ _ _ _
   | exact ih4 _ _ _ _
   | exact ih5 _ _ _ _ _ _ _
   | exact ih6 _ _ _ _ _ _
   | exact ih7 _ _ _ _ _
   | exact ih8 _ _ _ _ _ _ _
   | exact ih9 _ _ _ _
   | exact ih10 _ _ _
   | exact ih11 _ _ _
   | exact ih12 _ _ _
   | exact ih13 _ _ _ _ _
   | exact ih14 _ _ _ _ _ _
   | exact emendref2_run.mono _ _ _
   | exact LeO.none _
   | refine LeO.ite ?_ ?_
   | refine LeO.bind ?_ (fun _ => ?_)
  ·
   intro y0 y1 y2 y3 y4 y5
   unfold emendref2_Split.j6
   repeat' first
   | (with_reducible exact ih0 _ _ _)
   | (with_reducible exact ih1 _ _)
   | (with_reducible exact ih2 _ _ _ _)
   | (with_reducible exact ih3 _ _ _ _ _)
   | (with_reducible exact ih4 _ _ _ _)
   | (with_reducible exact ih5 _ _ _ _ _ _ _)
   | (with_reducible exact ih6 _ _ _ _ _ _)
   | (with_reducible exact ih7 _ _ _ _ _)
   | (with_reducible exact ih8 _ _ _ _ _ _ _)
   | (with_reducible exact ih9 _ _ _ _)
   | (with_reducible exact ih10 _ _ _)
   | (with_reducible exact ih11 _ _ _)
   | (with_reducible exact ih12 _ _ _)
   | (with_reducible exact ih13 _ _ _ _ _)
   | (with_reducible exact ih14 _ _ _ _ _ _)
   | (with_reducible exact emendref2_run.mono _ _ _)
   | (with_reducible exact LeO.refl _)
   | (with_reducible exact LeO.none _)
   | (with_reducible refine LeO.ite ?_ ?_)
   | (with_reducible refine LeO.bind ?_ (fun _ => ?_))
   | exact ih0 _ _ _
   | exact ih1 _ _
   | exact ih2 _ _ _ _
   | exact ih3 _ _ _ _ _
   | exact ih4 _ _ _ _
   | exact ih5 _ _ _ _ _ _ _
   | exact ih6 _ _ _ _ _ _
   | exact ih7 _ _ _ _ _
   | exact ih8 _ _ _ _ _ _ _
   | exact ih9 _ _ _ _
   | exact ih10 _ _ _
   | exact ih11 _ _ _
   | exact ih12 _ _ _
   | exact ih13 _ _ _ _ _
   | exact ih14 _ _ _ _ _ _
   | exact emendref2_run.mono _ _ _
   | exact LeO.none _
   | refine LeO.ite ?_ ?_
   | refine LeO.bind ?_ (fun _ => ?_)
theorem emendref2_Split.mono : ∀ a0 k, LeO (emendref2_Split.f k a0) (emendref2_Split.f (k + 1) a0) := by
 intro a0 k
 obtain ⟨ih0, ih1, ih2, ih3, ih4, ih5, ih6, ih7, ih8, ih9, ih10, ih11, ih12, ih13, ih14⟩ := emendref2_Split.mono_l k
 unfold emendref2_Split.f
 repeat' first
   | (with_reducible exact ih0 _ _ _)
   | (with_reducible exact ih1 _ _)
   | (with_reducible exact ih2 _ _ _ _)
   | (with_reducible exact ih3 _ _ _ _ _)
   | (with_reducible exact ih4 _ _ _ _)
   | (with_reducible exact ih5 _ _ _ _ _ _ _)
   | (with_reducible exact ih6 _ _ _ _ _ _)
   | (with_reducible exact ih7 _ _ _ _ _)
   | (with_reducible exact ih8 _ _ _ _ _ _ _)
   | (with_reducible exact ih9 _ _ _ _)
   | (with_reducible exact ih10 _ _ _)
   | (with_reducible exact ih11 _ _ _)
   | (with_reducible exact ih12 _ _ _)
   | (with_reducible exact ih13 _ _ _ _ _)
   | (with_reducible exact ih14 _ _ _ _ _ _)
   | (with_reducible exact emendref2_run.mono _ _ _)
   | (with_reducible exact LeO.refl _)
   | (with_reducible exact LeO.none _)
   | (with_reducible refine LeO.ite ?_ ?_)
   | (with_reducible refine LeO.bind ?_ (fun _ => ?_))
   | exact ih0 _ _ _
   | exact ih1 _ _
   | exact ih2 _ _ _ _
   | exact ih3 _ _ _ _ _
   | exact ih4 _ _ _ _
   | exact ih5 _ _ _ _ _ _ _
   | exact ih6 _ _ _ _ _ _
   | exact ih7 _ _ _ _ _
   | exact ih8 _ _ _ _ _ _ _
   | exact ih9 _ _ _ _
   | exact ih10 _ _ _
   | exact ih11 _ _ _
   | exact ih12 _ _ _
   | exact ih13 _ _ _ _ _
   | exact ih14 _ _ _ _ _ _
   | exact emendref2_run.mono _ _ _
   | exact LeO.none _
   | refine LeO.ite ?_ ?_
   | refine LeO.bind ?_ (fun _ => ?_)
set_option maxHeartbeats 8000000 in
set_option maxRecDepth 100000 in
theorem emendref2_Split.calls (k : Nat) (a0 : ByteArray) (r1 : Bool) (r2 : ByteArray) (r3 : Int) (r4 : Int) (w : World) (h : emendref2_Split.f k a0 = some (r1, r2, r3, r4)) :
  Calls Tryz.prog 9 #[.string a0] w fun e w' => e = .returned (.tuple #[.agg #[.bool r1, .string r2, .int .i64 r3], .int .i64 r4]) ∧ Below w.heap.size w w' := by
 have hu28 := Tryz.underlying28
 have HB := Aside0.mk (Below.refl w.heap.size w)
 have H : (if 0 < (a0.size : Int) then (emendref2_Split.j0 k a0 0 ((bt a0 0) == 45)) else (emendref2_Split.j0 k a0 0 false)) = some (r1, r2, r3, r4) := h
 clear h
 have HC2 := Aside0.mk H
 clear H
 go_enter Tryz.func9, Tryz.ntmps9
 go_upto_region 2 with (first | ((with_reducible refine gate_dst (N := 2) rfl ?_); refine box_event ?hg (N := 2) ?hd (cs := #[.bool false, .string (⟨#[]⟩ : ByteArray), .int .i64 0]) (t := 28) ?hr ?_; (case hd => rfl); (case hg => rfl); (case hr => first | (go_simp; done) | (go_simp; rfl)); intro gb102 hg w3 hbox hb; have n0_ := Aside0.mk (below_step (by repeat (first | (with_reducible first | exact HB.out | apply below_alloc | apply pw_below_drewN | apply below_drew1) | exact HB.out)) hb); have n1_ := Aside0.mk (hbox); have n2_ := Aside0.mk ((by rw [hg]; exact (below_size (by repeat (first | (with_reducible first | exact HB.out | apply below_alloc | apply pw_below_drewN | apply below_drew1) | exact HB.out))) : w.heap.size ≤ gb102)); have n3_ := Aside0.mk ((by rw [hg]; exact (below_size (by repeat (first | (with_reducible first | exact HB.out | apply below_alloc | apply pw_below_drewN | apply below_drew1) | exact HB.out))) : w.heap.size ≤ gb102)); clear HB; have HB := n0_; have BK102 := n1_; have GW102 := n2_; have GE102 := n3_; clear n0_ n1_ n2_ n3_; clear hb hbox hg))
 (try simp only [Act.put, List.setIfInBounds_toArray, List.set_cons_zero, List.set_cons_succ])
 go_cut [24] (fun v24 wc => ∃ (kq : Nat) (x24_1 : Bool), v24 = .bool x24_1 ∧ Aside0 (emendref2_Split.j0 kq a0 0 x24_1 = some (r1, r2, r3, r4)) ∧ Aside0 (kq ≤ k) ∧ Aside0 (wc.heap[gb102]? = some (.cells #[.bool false, .string (⟨#[]⟩ : ByteArray), .int .i64 0] 28 (0, 0))) ∧ Aside0 (Below w.heap.size w wc))
 case first =>
  have H := HC2.out
  clear HC2
  by_cases c4 : 0 < (a0.size : Int)
  ·
   rw [if_pos c4] at H
   have c4b0 : decide (0 < (a0.size : Int)) = true := decide_eq_true c4
   have c4b1 : decide (0 < a0.size) = true := decide_eq_true (by omega)
   clear c4
   (first | rw [c4b0] | (simp only [i64_w, i32_w]; rw [c4b0]) | skip)
   have H' := Aside0.mk H
   clear H
   have p5 : 0 ≤ (0 : Int) := (by omega)
   have q5 : 0 < a0.size := (by have : (0 : Int) < (a0.size : Int) := of_decide_eq_true (by first | (with_reducible assumption) | assumption); omega)
   have hx5 : ∀ h : 0 < a0.size, ((a0[0]'h).toNat : Int) = bt a0 0 := bt_at a0 0
   clear p5
   have qi5 : (0 < (a0.size : Int)) = True := eq_true (of_decide_eq_true (by first | (with_reducible assumption) | assumption))
   replace q5 := eq_true q5
   go_wp2
   go_meet
   case rel => exact ⟨_, (((bt a0 0) == 45)), (by first | rfl | (simp; done) | (simp [*]; done) | (congr 1; unfold wrap64; omega)), H', ⟨by first | omega | exact Nat.le_refl _⟩, ⟨by (with_reducible repeat (first | refine blk_drewN ?_ _ | refine blk_drew ?_ | refine blk_alloc ?_ _)); exact BK102.out⟩, ⟨by repeat (first | (with_reducible first | exact HB.out | apply below_alloc | apply pw_below_drewN | apply below_drew1 | refine below_set ?_ GE102.out) | exact HB.out)⟩⟩
  ·
   rw [if_neg c4] at H
   have c4b0 : decide (0 < (a0.size : Int)) = false := decide_eq_false c4
   have c4b1 : decide (0 < a0.size) = false := decide_eq_false (by omega)
   clear c4
   (first | rw [c4b0] | (simp only [i64_w, i32_w]; rw [c4b0]) | skip)
   have H' := Aside0.mk H
   clear H
   go_wp2
   go_meet
   case rel => exact ⟨_, (false), (by first | rfl | (simp; done) | (simp [*]; done) | (congr 1; unfold wrap64; omega)), H', ⟨by first | omega | exact Nat.le_refl _⟩, ⟨by (with_reducible repeat (first | refine blk_drewN ?_ _ | refine blk_drew ?_ | refine blk_alloc ?_ _)); exact BK102.out⟩, ⟨by repeat (first | (with_reducible first | exact HB.out | apply below_alloc | apply pw_below_drewN | apply below_drew1 | refine below_set ?_ GE102.out) | exact HB.out)⟩⟩
 case rest => as_aux_lemma =>
  clear HC2
  try clear p2
  try clear c4
  try clear c4b0
  try clear c4b1
  try clear p5
  try clear q5
  try clear hx5
  try clear qi5
  try clear p5
  try clear q5
  obtain ⟨kq, x24_1, rfl, HA, HJ1, BK102, HB⟩ := hcut
  cases kq with
  | zero => exact absurd HA.out (by simp [emendref2_Split.j0])
  | succ kj1 =>
   have H := HA.out
   clear HA
   simp only [emendref2_Split.j0] at H
   have HC6 := Aside0.mk H
   clear H
   go_upto_if 24 with (fail)
   go_cut [4] (fun v4 wc => ∃ (kq : Nat) (x4_5 : Int), v4 = .int .i64 x4_5 ∧ Aside0 (emendref2_Split.j1 kq a0 x4_5 = some (r1, r2, r3, r4)) ∧ Aside0 (kq ≤ kj1) ∧ Aside0 (wc.heap[gb102]? = some (.cells #[.bool false, .string (⟨#[]⟩ : ByteArray), .int .i64 0] 28 (0, 0))) ∧ Aside0 (Below w.heap.size w wc))
   case first =>
    have H := HC6.out
    clear HC6
    by_cases c7 : x24_1 = true
    ·
     subst c7
     have H1 : (emendref2_Split.j1 kj1 a0 (wrap64 (0 + 1))) = some (r1, r2, r3, r4) := by rw [if_pos rfl] at H; exact H
     clear H
     have H := H1
     clear H1
     have H' := Aside0.mk H
     clear H
     go_wp2
     go_meet
     case rel => exact ⟨_, (wrap64 (0 + 1)), (by first | rfl | (simp; done) | (simp [*]; done) | (congr 1; unfold wrap64; omega)), H', ⟨by have := HJ1.out; first | omega | exact Nat.le_refl _⟩, ⟨by (with_reducible repeat (first | refine blk_drewN ?_ _ | refine blk_drew ?_ | refine blk_alloc ?_ _)); exact BK102.out⟩, ⟨by repeat (first | (with_reducible first | exact HB.out | apply below_alloc | apply pw_below_drewN | apply below_drew1 | refine below_set ?_ GE102.out) | exact HB.out)⟩⟩
    ·
     replace c7 := Bool.eq_false_iff.mpr c7
     subst c7
     have H1 : (emendref2_Split.j1 kj1 a0 0) = some (r1, r2, r3, r4) := by rw [if_neg (show ¬ (false = true) by decide)] at H; exact H
     clear H
     have H := H1
     clear H1
     have H' := Aside0.mk H
     clear H
     go_wp2
     go_meet
     case rel => exact ⟨_, (0), (by first | rfl | (simp; done) | (simp [*]; done) | (congr 1; unfold wrap64; omega)), H', ⟨by have := HJ1.out; first | omega | exact Nat.le_refl _⟩, ⟨by (with_reducible repeat (first | refine blk_drewN ?_ _ | refine blk_drew ?_ | refine blk_alloc ?_ _)); exact BK102.out⟩, ⟨by repeat (first | (with_reducible first | exact HB.out | apply below_alloc | apply pw_below_drewN | apply below_drew1 | refine below_set ?_ GE102.out) | exact HB.out)⟩⟩
   case rest => as_aux_lemma =>
    clear HC6
    try clear p2
    try clear c4
    try clear c4b0
    try clear c4b1
    try clear p5
    try clear q5
    try clear hx5
    try clear qi5
    try clear p6
    try clear c7
    try clear p2
    try clear p5
    try clear q5
    obtain ⟨kq, x4_5, rfl, HA, HJ5, BK102, HB⟩ := hcut
    cases kq with
    | zero => exact absurd HA.out (by simp [emendref2_Split.j1])
    | succ kj5 =>
     have H := HA.out
     clear HA
     simp only [emendref2_Split.j1] at H
     replace H := Option.bind_eq_some_iff.mp H
     obtain ⟨t103, A80, H⟩ := H
     replace H : (if t103 = x4_5 then (emendref2_Split.j2 kj5 a0 x4_5 t103 true) else (if 0 ≤ x4_5 then (if x4_5 < (a0.size : Int) then (if (bt a0 x4_5) = 48 then (emendref2_Split.j2 kj5 a0 x4_5 t103 (decide (t103 > (wrap64 (x4_5 + 1))))) else (emendref2_Split.j2 kj5 a0 x4_5 t103 false)) else (none)) else (none))) = some (r1, r2, r3, r4) := H
     have A8 := Aside0.mk A80
     clear A80
     have HC9 := Aside0.mk H
     clear H
     go_upto_region 5 with (first | ((with_reducible refine gate_callee (f := 23) rfl ?_); refine goesL_ (some 29) rfl rfl Tryz.func23 (by kernel_rfl) rfl #[.string a0, .int .i64 x4_5] rfl (by (try simp only [List.map_toArray, List.map_cons, List.map_nil]); first | done | rfl | (simp only [List.length_drop, List.length_take]; rfl)) ?_; (with_reducible refine (emendref2_run.calls kj5 a0 x4_5 t103 _ A8.out).mono ?_); rintro e w' ⟨rfl, ⟨nd, rfl⟩⟩; refine ⟨_, rfl, ?_⟩))
     (try simp only [Act.put, List.setIfInBounds_toArray, List.set_cons_zero, List.set_cons_succ])
     go_cut [44] (fun v44 wc => ∃ (kq : Nat) (x44_8 : Bool), v44 = .bool x44_8 ∧ Aside0 (emendref2_Split.j2 kq a0 x4_5 t103 x44_8 = some (r1, r2, r3, r4)) ∧ Aside0 (kq ≤ kj5) ∧ Aside0 (wc.heap[gb102]? = some (.cells #[.bool false, .string (⟨#[]⟩ : ByteArray), .int .i64 0] 28 (0, 0))) ∧ Aside0 (Below w.heap.size w wc))
     case first =>
      have H := HC9.out
      clear HC9
      by_cases c10 : t103 = x4_5
      ·
       rw [if_pos c10] at H
       have c10b0 : (t103 == x4_5) = true := beq_iff_eq.mpr c10
       have c10b1 : (t103 != x4_5) = false := bne_eq_false_iff_eq.mpr c10
       clear c10
       (first | rw [c10b0] | (simp only [i64_w, i32_w]; rw [c10b0]) | skip)
       have H' := Aside0.mk H
       clear H
       go_wp2
       go_meet
       case rel => exact ⟨_, (true), (by first | rfl | (simp; done) | (simp [*]; done) | (congr 1; unfold wrap64; omega)), H', ⟨by have := HJ1.out; have := HJ5.out; first | omega | exact Nat.le_refl _⟩, ⟨by (with_reducible repeat (first | refine blk_drewN ?_ _ | refine blk_drew ?_ | refine blk_alloc ?_ _)); exact BK102.out⟩, ⟨by repeat (first | (with_reducible first | exact HB.out | apply below_alloc | apply pw_below_drewN | apply below_drew1 | refine below_set ?_ GE102.out) | exact HB.out)⟩⟩
      ·
       rw [if_neg c10] at H
       have c10b0 : (t103 == x4_5) = false := beq_eq_false_iff_ne.mpr c10
       have c10b1 : (t103 != x4_5) = true := bne_iff_ne.mpr c10
       (first | rw [c10b0] | (simp only [i64_w, i32_w]; rw [c10b0]) | skip)
       by_cases c11 : 0 ≤ x4_5
       ·
        rw [if_pos c11] at H
        have c11b0 : decide (0 ≤ x4_5) = true := decide_eq_true c11
        clear c11
        by_cases c12 : x4_5 < (a0.size : Int)
        ·
         rw [if_pos c12] at H
         have c12b0 : decide (x4_5 < (a0.size : Int)) = true := decide_eq_true c12
         clear c12
         by_cases c14 : (bt a0 x4_5) = 48
         ·
          rw [if_pos c14] at H
          have c14b0 : ((bt a0 x4_5) == 48) = true := beq_iff_eq.mpr c14
          have c14b1 : ((bt a0 x4_5) != 48) = false := bne_eq_false_iff_eq.mpr c14
          clear c14
          have H' := Aside0.mk H
          clear H
          have p13 : 0 ≤ (x4_5 : Int) := of_decide_eq_true (by first | (with_reducible assumption) | assumption)
          have q13 : x4_5 < (a0.size : Int) := of_decide_eq_true (by first | (with_reducible assumption) | assumption)
          have hx13 := bt_at a0 x4_5
          replace p13 := eq_true p13
          replace q13 := eq_true q13
          go_wp2
          go_meet
          case rel => exact ⟨_, (decide (t103 > (wrap64 (x4_5 + 1)))), (by first | rfl | (simp; done) | (simp [*]; done) | (congr 1; unfold wrap64; omega)), H', ⟨by have := HJ1.out; have := HJ5.out; first | omega | exact Nat.le_refl _⟩, ⟨by (with_reducible repeat (first | refine blk_drewN ?_ _ | refine blk_drew ?_ | refine blk_alloc ?_ _)); exact BK102.out⟩, ⟨by repeat (first | (with_reducible first | exact HB.out | apply below_alloc | apply pw_below_drewN | apply below_drew1 | refine below_set ?_ GE102.out) | exact HB.out)⟩⟩
         ·
          rw [if_neg c14] at H
          have c14b0 : ((bt a0 x4_5) == 48) = false := beq_eq_false_iff_ne.mpr c14
          have c14b1 : ((bt a0 x4_5) != 48) = true := bne_iff_ne.mpr c14
          have H' := Aside0.mk H
          clear H
          have p13 : 0 ≤ (x4_5 : Int) := of_decide_eq_true (by first | (with_reducible assumption) | assumption)
          have q13 : x4_5 < (a0.size : Int) := of_decide_eq_true (by first | (with_reducible assumption) | assumption)
          have hx13 := bt_at a0 x4_5
          replace p13 := eq_true p13
          replace q13 := eq_true q13
          go_wp2
          go_meet
          case rel => exact ⟨_, (false), (by first | rfl | (simp; done) | (simp [*]; done) | (congr 1; unfold wrap64; omega)), H', ⟨by have := HJ1.out; have := HJ5.out; first | omega | exact Nat.le_refl _⟩, ⟨by (with_reducible repeat (first | refine blk_drewN ?_ _ | refine blk_drew ?_ | refine blk_alloc ?_ _)); exact BK102.out⟩, ⟨by repeat (first | (with_reducible first | exact HB.out | apply below_alloc | apply pw_below_drewN | apply below_drew1 | refine below_set ?_ GE102.out) | exact HB.out)⟩⟩
        ·
         rw [if_neg c12] at H
         exact absurd H (by simp)
       ·
        rw [if_neg c11] at H
        exact absurd H (by simp)
     case rest => as_aux_lemma =>
      clear HC9
      try clear c1
      try clear p1
      try clear q1
      try clear hx1
      try clear c2
      try clear p2
      try clear c4
      try clear c4b0
      try clear c4b1
      try clear p5
      try clear q5
      try clear hx5
      try clear qi5
      try clear p6
      try clear c7
      try clear c9
      try clear c10
      try clear c10b0
      try clear c10b1
      try clear c11
      try clear c11b0
      try clear c12
      try clear c12b0
      try clear p13
      try clear q13
      try clear hx13
      try clear c14
      try clear c14b0
      try clear c14b1
      try clear p13
      try clear p2
      try clear p5
      try clear p6
      try clear q13
      try clear q5
      obtain ⟨kq, x44_8, rfl, HA, HJ8, BK102, HB⟩ := hcut
      cases kq with
      | zero => exact absurd HA.out (by simp [emendref2_Split.j2])
      | succ kj8 =>
       have H := HA.out
       clear HA
       simp only [emendref2_Split.j2] at H
       by_cases c15 : x44_8 = true
       ·
        subst c15
        have H1 : (some (false, (⟨#[]⟩ : ByteArray), 0, 12)) = some (r1, r2, r3, r4) := by rw [if_pos rfl] at H; exact H
        clear H
        have H := H1
        clear H1
        simp only [Option.some.injEq, Prod.mk.injEq] at H
        obtain ⟨rfl, rfl, rfl, rfl⟩ := H
        have hcz16_0 : wc.cell? ⟨gb102, 0, none⟩ = some (.bool false) := (blk_cell BK102.out 0).trans rfl
        have hcz16_1 : wc.cell? ⟨gb102, 1, none⟩ = some (.string (⟨#[]⟩ : ByteArray)) := (blk_cell BK102.out 1).trans rfl
        have hcz16_2 : wc.cell? ⟨gb102, 2, none⟩ = some (.int .i64 0) := (blk_cell BK102.out 2).trans rfl
        have hfz16_0 := blk_frozen BK102.out 0
        have hfz16_1 := blk_frozen BK102.out 1
        have hfz16_2 := blk_frozen BK102.out 2
        go_wp2
        refine bodyPost_ret (results_ct rfl _ _ gb102 28 #[.bool false, .string (⟨#[]⟩ : ByteArray), .int .i64 0] (0, 0) _ rfl (by (with_reducible repeat (first | refine blk_drewN ?_ _ | refine blk_drew ?_ | refine blk_alloc ?_ _)); refine blk_put (cs := #[.bool false, .string (⟨#[]⟩ : ByteArray), .int .i64 0]) ?_ 2 _ rfl; (with_reducible repeat (first | refine blk_drewN ?_ _ | refine blk_drew ?_ | refine blk_alloc ?_ _)); refine blk_put (cs := #[.bool false, .string (⟨#[]⟩ : ByteArray), .int .i64 0]) ?_ 1 _ rfl; (with_reducible repeat (first | refine blk_drewN ?_ _ | refine blk_drew ?_ | refine blk_alloc ?_ _)); refine blk_put (cs := #[.bool false, .string (⟨#[]⟩ : ByteArray), .int .i64 0]) ?_ 0 _ rfl; (with_reducible repeat (first | refine blk_drewN ?_ _ | refine blk_drew ?_ | refine blk_alloc ?_ _)); exact BK102.out) Tryz.underlying28 rfl (by kernel_rfl)) rfl ?_
        exact ⟨by first | rfl | (simp [errW_none, errW_some] <;> rfl) | (simp [*, errW_none, errW_some] <;> rfl), by repeat (first | (with_reducible first | exact HB.out | apply below_alloc | apply pw_below_drewN | apply below_drew1 | refine below_set ?_ GE102.out) | exact HB.out)⟩
       ·
        replace c15 := Bool.eq_false_iff.mpr c15
        subst c15
        have H1 : (if 0 ≤ x4_5 then (if x4_5 ≤ t103 then (if t103 ≤ (a0.size : Int) then (if t103 < (a0.size : Int) then (if 0 ≤ t103 then (emendref2_Split.j3 kj8 a0 t103 (a0.extract (x4_5 : Int).toNat (t103 : Int).toNat) (⟨#[]⟩ : ByteArray) ((bt a0 t103) == 46)) else (none)) else (emendref2_Split.j3 kj8 a0 t103 (a0.extract (x4_5 : Int).toNat (t103 : Int).toNat) (⟨#[]⟩ : ByteArray) false)) else (none)) else (none)) else (none)) = some (r1, r2, r3, r4) := by rw [if_neg (show ¬ (false = true) by decide)] at H; exact H
        clear H
        have H := H1
        clear H1
        by_cases c17 : 0 ≤ x4_5
        ·
         rw [if_pos c17] at H
         have c17b0 := eq_true c17
         have c17b1 : decide (0 ≤ x4_5) = true := decide_eq_true c17
         clear c17
         by_cases c18 : x4_5 ≤ t103
         ·
          rw [if_pos c18] at H
          have c18b0 := eq_true c18
          have c18b1 : decide (x4_5 ≤ t103) = true := decide_eq_true c18
          clear c18
          by_cases c19 : t103 ≤ (a0.size : Int)
          ·
           rw [if_pos c19] at H
           have c19b0 := eq_true c19
           have c19b1 : decide (t103 ≤ (a0.size : Int)) = true := decide_eq_true c19
           clear c19
           have HC20 := Aside0.mk H
           clear H
           go_upto_region 9 with (fail)
           go_cut [59] (fun v59 wc => ∃ (kq : Nat) (x59_19 : Bool), v59 = .bool x59_19 ∧ Aside0 (emendref2_Split.j3 kq a0 t103 (a0.extract (x4_5 : Int).toNat (t103 : Int).toNat) (⟨#[]⟩ : ByteArray) x59_19 = some (r1, r2, r3, r4)) ∧ Aside0 (kq ≤ kj8) ∧ Aside0 (wc.heap[gb102]? = some (.cells #[.bool false, .string (⟨#[]⟩ : ByteArray), .int .i64 0] 28 (0, 0))) ∧ Aside0 (Below w.heap.size w wc))
           case first =>
            have H := HC20.out
            clear HC20
            by_cases c21 : t103 < (a0.size : Int)
            ·
             rw [if_pos c21] at H
             have c21b0 : decide (t103 < (a0.size : Int)) = true := decide_eq_true c21
             clear c21
             (first | rw [c21b0] | (simp only [i64_w, i32_w]; rw [c21b0]) | skip)
             by_cases c22 : 0 ≤ t103
             ·
              rw [if_pos c22] at H
              have c22b0 : decide (0 ≤ t103) = true := decide_eq_true c22
              clear c22
              have H' := Aside0.mk H
              clear H
              have p23 : 0 ≤ (t103 : Int) := of_decide_eq_true (by first | (with_reducible assumption) | assumption)
              have q23 : t103 < (a0.size : Int) := of_decide_eq_true (by first | (with_reducible assumption) | assumption)
              have hx23 := bt_at a0 t103
              replace p23 := eq_true p23
              replace q23 := eq_true q23
              go_wp2
              go_meet
              case rel => exact ⟨_, (((bt a0 t103) == 46)), (by first | rfl | (simp; done) | (simp [*]; done) | (congr 1; unfold wrap64; omega)), H', ⟨by have := HJ1.out; have := HJ5.out; have := HJ8.out; first | omega | exact Nat.le_refl _⟩, ⟨by (with_reducible repeat (first | refine blk_drewN ?_ _ | refine blk_drew ?_ | refine blk_alloc ?_ _)); exact BK102.out⟩, ⟨by repeat (first | (with_reducible first | exact HB.out | apply below_alloc | apply pw_below_drewN | apply below_drew1 | refine below_set ?_ GE102.out) | exact HB.out)⟩⟩
             ·
              rw [if_neg c22] at H
              exact absurd H (by simp)
            ·
             rw [if_neg c21] at H
             have c21b0 : decide (t103 < (a0.size : Int)) = false := decide_eq_false c21
             clear c21
             (first | rw [c21b0] | (simp only [i64_w, i32_w]; rw [c21b0]) | skip)
             have H' := Aside0.mk H
             clear H
             go_wp2
             go_meet
             case rel => exact ⟨_, (false), (by first | rfl | (simp; done) | (simp [*]; done) | (congr 1; unfold wrap64; omega)), H', ⟨by have := HJ1.out; have := HJ5.out; have := HJ8.out; first | omega | exact Nat.le_refl _⟩, ⟨by (with_reducible repeat (first | refine blk_drewN ?_ _ | refine blk_drew ?_ | refine blk_alloc ?_ _)); exact BK102.out⟩, ⟨by repeat (first | (with_reducible first | exact HB.out | apply below_alloc | apply pw_below_drewN | apply below_drew1 | refine below_set ?_ GE102.out) | exact HB.out)⟩⟩
           case rest => as_aux_lemma =>
            clear HC20
            try clear c1
            try clear p1
            try clear q1
            try clear hx1
            try clear c2
            try clear p2
            try clear q2
            try clear hx2
            try clear c4
            try clear c4b0
            try clear c4b1
            try clear p5
            try clear q5
            try clear hx5
            try clear qi5
            try clear p6
            try clear c7
            try clear c9
            try clear c10
            try clear c10b0
            try clear c10b1
            try clear c11
            try clear c11b0
            try clear c12
            try clear c12b0
            try clear p13
            try clear q13
            try clear hx13
            try clear c14
            try clear c14b0
            try clear c14b1
            try clear c15
            try clear c17
            try clear c17b0
            try clear c17b1
            try clear c18
            try clear c18b0
            try clear c18b1
            try clear c19
            try clear c19b0
            try clear c19b1
            try clear c21
            try clear c21b0
            try clear c22
            try clear c22b0
            try clear c23
            try clear p23
            try clear q23
            try clear hx23
            try clear hcz16_0
            try clear hcz16_1
            try clear hcz16_2
            try clear hfz16_0
            try clear hfz16_1
            try clear hfz16_2
            try clear p1
            try clear p13
            try clear p2
            try clear p23
            try clear p5
            try clear p6
            try clear q1
            try clear q13
            try clear q23
            try clear q5
            obtain ⟨kq, x59_19, rfl, HA, HJ19, BK102, HB⟩ := hcut
            cases kq with
            | zero => exact absurd HA.out (by simp [emendref2_Split.j3])
            | succ kj19 =>
             have H := HA.out
             clear HA
             simp only [emendref2_Split.j3] at H
             have HC24 := Aside0.mk H
             clear H
             go_upto_if 59 with (fail)
             go_cut [5, 7] (fun v5 v7 wc => ∃ (kq : Nat) (x5_23 : Int) (x7_23 : ByteArray) (x103000_23 : Bool) (x103001_23 : ByteArray) (x103002_23 : Int), v5 = .int .i64 x5_23 ∧ v7 = .string x7_23 ∧ Aside0 (emendref2_Split.j4 kq a0 x5_23 (a0.extract (x4_5 : Int).toNat (t103 : Int).toNat) x7_23 = some (r1, r2, r3, r4)) ∧ Aside0 (kq ≤ kj19) ∧ Aside0 (wc.heap[gb102]? = some (.cells #[.bool x103000_23, .string x103001_23, .int .i64 x103002_23] 28 (0, 0))) ∧ Aside0 (Below w.heap.size w wc))
             case first =>
              have H := HC24.out
              clear HC24
              by_cases c25 : x59_19 = true
              ·
               subst c25
               have H1 : ((emendref2_run.f kj19 a0 (wrap64 (t103 + 1))).bind fun t104 => (if t104 = (wrap64 (t103 + 1)) then (some (false, (⟨#[]⟩ : ByteArray), 0, 12)) else (if 0 ≤ (wrap64 (t103 + 1)) then (if (wrap64 (t103 + 1)) ≤ t104 then (if t104 ≤ (a0.size : Int) then (emendref2_Split.j4 kj19 a0 t104 (a0.extract (x4_5 : Int).toNat (t103 : Int).toNat) (a0.extract ((wrap64 (t103 + 1)) : Int).toNat (t104 : Int).toNat)) else (none)) else (none)) else (none)))) = some (r1, r2, r3, r4) := by rw [if_pos rfl] at H; exact H
               clear H
               have H := H1
               clear H1
               replace H := Option.bind_eq_some_iff.mp H
               obtain ⟨t104, A260, H⟩ := H
               replace H : (if t104 = (wrap64 (t103 + 1)) then (some (false, (⟨#[]⟩ : ByteArray), 0, 12)) else (if 0 ≤ (wrap64 (t103 + 1)) then (if (wrap64 (t103 + 1)) ≤ t104 then (if t104 ≤ (a0.size : Int) then (emendref2_Split.j4 kj19 a0 t104 (a0.extract (x4_5 : Int).toNat (t103 : Int).toNat) (a0.extract ((wrap64 (t103 + 1)) : Int).toNat (t104 : Int).toNat)) else (none)) else (none)) else (none))) = some (r1, r2, r3, r4) := H
               have A26 := Aside0.mk A260
               clear A260
               by_cases c27 : t104 = (wrap64 (t103 + 1))
               ·
                rw [if_pos c27] at H
                have c27b0 : (t104 == (wrap64 (t103 + 1))) = true := beq_iff_eq.mpr c27
                have c27b1 : (t104 != (wrap64 (t103 + 1))) = false := bne_eq_false_iff_eq.mpr c27
                clear c27
                (first | rw [c27b0] | (simp only [i64_w, i32_w]; rw [c27b0]) | skip)
                simp only [Option.some.injEq, Prod.mk.injEq] at H
                obtain ⟨rfl, rfl, rfl, rfl⟩ := H
                go_wp2_with (first | ((with_reducible refine gate_callee (f := 23) rfl ?_); refine goesL_ (some 63) rfl rfl Tryz.func23 (by kernel_rfl) rfl #[.string a0, .int .i64 (wrap64 (t103 + 1))] rfl (by (try simp only [List.map_toArray, List.map_cons, List.map_nil]); first | done | rfl | (simp only [List.length_drop, List.length_take]; rfl)) ?_; (with_reducible refine (emendref2_run.calls kj19 a0 (wrap64 (t103 + 1)) t104 _ A26.out).mono ?_); rintro e w' ⟨rfl, ⟨nd, rfl⟩⟩; refine ⟨_, rfl, ?_⟩; (try (rw [drewN_self wc]; generalize hq_ : World.drewN wc _ = wc; have n0_ : Aside0 (wc.heap[gb102]? = some (.cells #[.bool false, .string (⟨#[]⟩ : ByteArray), .int .i64 0] 28 (0, 0))) := ⟨by rw [← hq_]; exact (by (with_reducible repeat (first | refine blk_drewN ?_ _ | refine blk_drew ?_ | refine blk_alloc ?_ _)); exact BK102.out)⟩; have n1_ : Aside0 (Below w.heap.size w wc) := ⟨by rw [← hq_]; exact (by repeat (first | (with_reducible first | exact HB.out | apply below_alloc | apply pw_below_drewN | apply below_drew1 | refine below_set ?_ GE102.out) | exact HB.out))⟩; clear BK102 HB hq_; have BK102 := n0_; have HB := n1_; clear n0_ n1_)); have hcz28_0 : wc.cell? ⟨gb102, 0, none⟩ = some (.bool false) := (blk_cell BK102.out 0).trans rfl; have hcz28_1 : wc.cell? ⟨gb102, 1, none⟩ = some (.string (⟨#[]⟩ : ByteArray)) := (blk_cell BK102.out 1).trans rfl; have hcz28_2 : wc.cell? ⟨gb102, 2, none⟩ = some (.int .i64 0) := (blk_cell BK102.out 2).trans rfl; have hfz28_0 := blk_frozen BK102.out 0; have hfz28_1 := blk_frozen BK102.out 1; have hfz28_2 := blk_frozen BK102.out 2))
                refine bodyPost_ret (results_ct rfl _ _ gb102 28 #[.bool false, .string (⟨#[]⟩ : ByteArray), .int .i64 0] (0, 0) _ rfl (by (with_reducible repeat (first | refine blk_drewN ?_ _ | refine blk_drew ?_ | refine blk_alloc ?_ _)); refine blk_put (cs := #[.bool false, .string (⟨#[]⟩ : ByteArray), .int .i64 0]) ?_ 2 _ rfl; (with_reducible repeat (first | refine blk_drewN ?_ _ | refine blk_drew ?_ | refine blk_alloc ?_ _)); refine blk_put (cs := #[.bool false, .string (⟨#[]⟩ : ByteArray), .int .i64 0]) ?_ 1 _ rfl; (with_reducible repeat (first | refine blk_drewN ?_ _ | refine blk_drew ?_ | refine blk_alloc ?_ _)); refine blk_put (cs := #[.bool false, .string (⟨#[]⟩ : ByteArray), .int .i64 0]) ?_ 0 _ rfl; (with_reducible repeat (first | refine blk_drewN ?_ _ | refine blk_drew ?_ | refine blk_alloc ?_ _)); exact BK102.out) Tryz.underlying28 rfl (by kernel_rfl)) rfl ?_
                exact ⟨by first | rfl | (simp [errW_none, errW_some] <;> rfl) | (simp [*, errW_none, errW_some] <;> rfl), by repeat (first | (with_reducible first | exact HB.out | apply below_alloc | apply pw_below_drewN | apply below_drew1 | refine below_set ?_ GE102.out) | exact HB.out)⟩
               ·
                rw [if_neg c27] at H
                have c27b0 : (t104 == (wrap64 (t103 + 1))) = false := beq_eq_false_iff_ne.mpr c27
                have c27b1 : (t104 != (wrap64 (t103 + 1))) = true := bne_iff_ne.mpr c27
                (first | rw [c27b0] | (simp only [i64_w, i32_w]; rw [c27b0]) | skip)
                obtain ⟨ji29, hji29⟩ : ∃ j_ : Int, (wrap64 (t103 + 1)) = j_ := ⟨_, rfl⟩
                replace H : (if 0 ≤ (ji29) then (if (ji29) ≤ t104 then (if t104 ≤ (a0.size : Int) then (emendref2_Split.j4 kj19 a0 t104 (a0.extract (x4_5 : Int).toNat (t103 : Int).toNat) (a0.extract ((ji29) : Int).toNat (t104 : Int).toNat)) else (none)) else (none)) else (none)) = some (r1, r2, r3, r4) := by first | (rw [hji29] at H; exact H) | (simp only [hji29] at H ⊢; exact H)
                (try rw [hji29] at c27b0)
                (try rw [hji29] at c27b1)
                (try rw [hji29] at A26)
                have hji29w : (IntKind.i64.wrap (t103 + 1)) = ji29 := (i64_w _).trans hji29
                by_cases c30 : 0 ≤ (ji29)
                ·
                 rw [if_pos c30] at H
                 have c30b0 := eq_true c30
                 have c30b1 : decide (0 ≤ (ji29)) = true := decide_eq_true c30
                 clear c30
                 by_cases c31 : (ji29) ≤ t104
                 ·
                  rw [if_pos c31] at H
                  have c31b0 := eq_true c31
                  have c31b1 : decide ((ji29) ≤ t104) = true := decide_eq_true c31
                  clear c31
                  by_cases c32 : t104 ≤ (a0.size : Int)
                  ·
                   rw [if_pos c32] at H
                   have c32b0 := eq_true c32
                   have c32b1 : decide (t104 ≤ (a0.size : Int)) = true := decide_eq_true c32
                   clear c32
                   have H' := Aside0.mk H
                   clear H
                   go_wp2_with (first | ((with_reducible refine gate_callee (f := 23) rfl ?_); refine goesL_ (some 63) rfl rfl Tryz.func23 (by kernel_rfl) rfl #[.string a0, .int .i64 ji29] rfl (by (try simp only [List.map_toArray, List.map_cons, List.map_nil]); first | done | (simp only [hji29]; rfl) | rfl | (simp only [List.length_drop, List.length_take]; rfl)) ?_; (with_reducible refine (emendref2_run.calls kj19 a0 ji29 t104 _ A26.out).mono ?_); rintro e w' ⟨rfl, ⟨nd, rfl⟩⟩; refine ⟨_, rfl, ?_⟩))
                   go_meet
                   case rel => exact ⟨_, (t104), (a0.extract ((ji29) : Int).toNat (t104 : Int).toNat), (false), ((⟨#[]⟩ : ByteArray)), (0), (by first | rfl | (simp; done) | (simp [*]; done) | (congr 1; unfold wrap64; omega)), (by first | rfl | (simp; done) | (simp only [← hji29] <;> (first | rfl | simp)) | (simp [*]; done)), (by first | (with_reducible exact H') | exact H' | (rw [hji29]; exact H') | (simp only [hji29]; exact H')), ⟨by have := HJ1.out; have := HJ5.out; have := HJ8.out; have := HJ19.out; first | omega | exact Nat.le_refl _⟩, ⟨by (with_reducible repeat (first | refine blk_drewN ?_ _ | refine blk_drew ?_ | refine blk_alloc ?_ _)); exact BK102.out⟩, ⟨by repeat (first | (with_reducible first | exact HB.out | apply below_alloc | apply pw_below_drewN | apply below_drew1 | refine below_set ?_ GE102.out) | exact HB.out)⟩⟩
                  ·
                   rw [if_neg c32] at H
                   exact absurd H (by simp)
                 ·
                  rw [if_neg c31] at H
                  exact absurd H (by simp)
                ·
                 rw [if_neg c30] at H
                 exact absurd H (by simp)
              ·
               replace c25 := Bool.eq_false_iff.mpr c25
               subst c25
               have H1 : (emendref2_Split.j4 kj19 a0 t103 (a0.extract (x4_5 : Int).toNat (t103 : Int).toNat) (⟨#[]⟩ : ByteArray)) = some (r1, r2, r3, r4) := by rw [if_neg (show ¬ (false = true) by decide)] at H; exact H
               clear H
               have H := H1
               clear H1
               have H' := Aside0.mk H
               clear H
               go_wp2
               go_meet
               case rel => exact ⟨_, (t103), ((⟨#[]⟩ : ByteArray)), (false), ((⟨#[]⟩ : ByteArray)), (0), (by first | rfl | (simp; done) | (simp [*]; done) | (congr 1; unfold wrap64; omega)), (by first | rfl | (simp; done) | (simp [*]; done) | (congr 1; unfold wrap64; omega)), H', ⟨by have := HJ1.out; have := HJ5.out; have := HJ8.out; have := HJ19.out; first | omega | exact Nat.le_refl _⟩, ⟨by (with_reducible repeat (first | refine blk_drewN ?_ _ | refine blk_drew ?_ | refine blk_alloc ?_ _)); exact BK102.out⟩, ⟨by repeat (first | (with_reducible first | exact HB.out | apply below_alloc | apply pw_below_drewN | apply below_drew1 | refine below_set ?_ GE102.out) | exact HB.out)⟩⟩
             case rest => as_aux_lemma =>
              clear HC24
              try clear c1
              try clear p1
              try clear q1
              try clear hx1
              try clear c2
              try clear p2
              try clear q2
              try clear hx2
              try clear c3
              try clear c4
              try clear c4b0
              try clear c4b1
              try clear p5
              try clear q5
              try clear hx5
              try clear qi5
              try clear p6
              try clear c7
              try clear c9
              try clear c10
              try clear c10b0
              try clear c10b1
              try clear c11
              try clear c11b0
              try clear c12
              try clear c12b0
              try clear p13
              try clear q13
              try clear hx13
              try clear c14
              try clear c14b0
              try clear c14b1
              try clear c15
              try clear c17
              try clear c17b0
              try clear c17b1
              try clear c18
              try clear c18b0
              try clear c18b1
              try clear c19
              try clear c19b0
              try clear c19b1
              try clear c21
              try clear c21b0
              try clear c22
              try clear c22b0
              try clear c23
              try clear p23
              try clear q23
              try clear hx23
              try clear c25
              try clear c27
              try clear c27b0
              try clear c27b1
              try clear c30
              try clear c30b0
              try clear c30b1
              try clear c31
              try clear c31b0
              try clear c31b1
              try clear c32
              try clear c32b0
              try clear c32b1
              try clear hcz16_0
              try clear hcz16_1
              try clear hcz16_2
              try clear hcz28_0
              try clear hcz28_1
              try clear hcz28_2
              try clear hfz16_0
              try clear hfz16_1
              try clear hfz16_2
              try clear hfz28_0
              try clear hfz28_1
              try clear hfz28_2
              try clear p1
              try clear p13
              try clear p2
              try clear p23
              try clear p5
              try clear p6
              try clear q1
              try clear q13
              try clear q2
              try clear q23
              try clear q5
              obtain ⟨kq, x5_23, x7_23, x103000_23, x103001_23, x103002_23, rfl, rfl, HA, HJ23, BK102, HB⟩ := hcut
              cases kq with
              | zero => exact absurd HA.out (by simp [emendref2_Split.j4])
              | succ kj23 =>
               have H := HA.out
               clear HA
               simp only [emendref2_Split.j4] at H
               have HC33 := Aside0.mk H
               clear H
               go_upto_region 17 with (fail)
               go_cut [90] (fun v90 wc => ∃ (kq : Nat) (x90_32 : Bool), v90 = .bool x90_32 ∧ Aside0 (emendref2_Split.j5 kq a0 x5_23 (a0.extract (x4_5 : Int).toNat (t103 : Int).toNat) x7_23 (⟨#[]⟩ : ByteArray) false x90_32 = some (r1, r2, r3, r4)) ∧ Aside0 (kq ≤ kj23) ∧ Aside0 (wc.heap[gb102]? = some (.cells #[.bool x103000_23, .string x103001_23, .int .i64 x103002_23] 28 (0, 0))) ∧ Aside0 (Below w.heap.size w wc))
               case first =>
                have H := HC33.out
                clear HC33
                by_cases c34 : x5_23 < (a0.size : Int)
                ·
                 rw [if_pos c34] at H
                 have c34b0 : decide (x5_23 < (a0.size : Int)) = true := decide_eq_true c34
                 clear c34
                 (first | rw [c34b0] | (simp only [i64_w, i32_w]; rw [c34b0]) | skip)
                 by_cases c35 : 0 ≤ x5_23
                 ·
                  rw [if_pos c35] at H
                  have c35b0 : decide (0 ≤ x5_23) = true := decide_eq_true c35
                  clear c35
                  by_cases c37 : (bt a0 x5_23) = 101
                  ·
                   rw [if_pos c37] at H
                   have c37b0 : ((bt a0 x5_23) == 101) = true := beq_iff_eq.mpr c37
                   have c37b1 : ((bt a0 x5_23) != 101) = false := bne_eq_false_iff_eq.mpr c37
                   clear c37
                   have H' := Aside0.mk H
                   clear H
                   have p36 : 0 ≤ (x5_23 : Int) := of_decide_eq_true (by first | (with_reducible assumption) | assumption)
                   have q36 : x5_23 < (a0.size : Int) := of_decide_eq_true (by first | (with_reducible assumption) | assumption)
                   have hx36 := bt_at a0 x5_23
                   replace p36 := eq_true p36
                   replace q36 := eq_true q36
                   go_wp2
                   go_meet
                   case rel => exact ⟨_, (true), (by first | rfl | (simp; done) | (simp [*]; done) | (congr 1; unfold wrap64; omega)), H', ⟨by have := HJ1.out; have := HJ5.out; have := HJ8.out; have := HJ19.out; have := HJ23.out; first | omega | exact Nat.le_refl _⟩, ⟨by (with_reducible repeat (first | refine blk_drewN ?_ _ | refine blk_drew ?_ | refine blk_alloc ?_ _)); exact BK102.out⟩, ⟨by repeat (first | (with_reducible first | exact HB.out | apply below_alloc | apply pw_below_drewN | apply below_drew1 | refine below_set ?_ GE102.out) | exact HB.out)⟩⟩
                  ·
                   rw [if_neg c37] at H
                   have c37b0 : ((bt a0 x5_23) == 101) = false := beq_eq_false_iff_ne.mpr c37
                   have c37b1 : ((bt a0 x5_23) != 101) = true := bne_iff_ne.mpr c37
                   have H' := Aside0.mk H
                   clear H
                   have p36 : 0 ≤ (x5_23 : Int) := of_decide_eq_true (by first | (with_reducible assumption) | assumption)
                   have q36 : x5_23 < (a0.size : Int) := of_decide_eq_true (by first | (with_reducible assumption) | assumption)
                   have hx36 := bt_at a0 x5_23
                   replace p36 := eq_true p36
                   replace q36 := eq_true q36
                   have p38 : 0 ≤ (x5_23 : Int) := of_decide_eq_true (by first | (with_reducible assumption) | assumption)
                   have q38 : x5_23 < (a0.size : Int) := of_decide_eq_true (by first | (with_reducible assumption) | assumption)
                   have hx38 := bt_at a0 x5_23
                   replace p38 := eq_true p38
                   replace q38 := eq_true q38
                   go_wp2
                   go_meet
                   case rel => exact ⟨_, (((bt a0 x5_23) == 69)), (by first | rfl | (simp; done) | (simp [*]; done) | (congr 1; unfold wrap64; omega)), H', ⟨by have := HJ1.out; have := HJ5.out; have := HJ8.out; have := HJ19.out; have := HJ23.out; first | omega | exact Nat.le_refl _⟩, ⟨by (with_reducible repeat (first | refine blk_drewN ?_ _ | refine blk_drew ?_ | refine blk_alloc ?_ _)); exact BK102.out⟩, ⟨by repeat (first | (with_reducible first | exact HB.out | apply below_alloc | apply pw_below_drewN | apply below_drew1 | refine below_set ?_ GE102.out) | exact HB.out)⟩⟩
                 ·
                  rw [if_neg c35] at H
                  exact absurd H (by simp)
                ·
                 rw [if_neg c34] at H
                 have c34b0 : decide (x5_23 < (a0.size : Int)) = false := decide_eq_false c34
                 clear c34
                 (first | rw [c34b0] | (simp only [i64_w, i32_w]; rw [c34b0]) | skip)
                 have H' := Aside0.mk H
                 clear H
                 go_wp2
                 go_meet
                 case rel => exact ⟨_, (false), (by first | rfl | (simp; done) | (simp [*]; done) | (congr 1; unfold wrap64; omega)), H', ⟨by have := HJ1.out; have := HJ5.out; have := HJ8.out; have := HJ19.out; have := HJ23.out; first | omega | exact Nat.le_refl _⟩, ⟨by (with_reducible repeat (first | refine blk_drewN ?_ _ | refine blk_drew ?_ | refine blk_alloc ?_ _)); exact BK102.out⟩, ⟨by repeat (first | (with_reducible first | exact HB.out | apply below_alloc | apply pw_below_drewN | apply below_drew1 | refine below_set ?_ GE102.out) | exact HB.out)⟩⟩
               case rest => as_aux_lemma =>
                clear HC33
                try clear c1
                try clear p1
                try clear q1
                try clear hx1
                try clear c2
                try clear p2
                try clear q2
                try clear hx2
                try clear c3
                try clear p3
                try clear q3
                try clear hx3
                try clear c4
                try clear c4b0
                try clear c4b1
                try clear p5
                try clear q5
                try clear hx5
                try clear qi5
                try clear p6
                try clear c7
                try clear c9
                try clear c10
                try clear c10b0
                try clear c10b1
                try clear c11
                try clear c11b0
                try clear c12
                try clear c12b0
                try clear p13
                try clear q13
                try clear hx13
                try clear c14
                try clear c14b0
                try clear c14b1
                try clear c15
                try clear c17
                try clear c17b0
                try clear c17b1
                try clear c18
                try clear c18b0
                try clear c18b1
                try clear c19
                try clear c19b0
                try clear c19b1
                try clear c21
                try clear c21b0
                try clear c22
                try clear c22b0
                try clear c23
                try clear p23
                try clear q23
                try clear hx23
                try clear c25
                try clear c27
                try clear c27b0
                try clear c27b1
                try clear c30
                try clear c30b0
                try clear c30b1
                try clear c31
                try clear c31b0
                try clear c31b1
                try clear c32
                try clear c32b0
                try clear c32b1
                try clear c34
                try clear c34b0
                try clear c35
                try clear c35b0
                try clear p36
                try clear q36
                try clear hx36
                try clear c37
                try clear c37b0
                try clear c37b1
                try clear p38
                try clear q38
                try clear hx38
                try clear hcz16_0
                try clear hcz16_1
                try clear hcz16_2
                try clear hcz28_0
                try clear hcz28_1
                try clear hcz28_2
                try clear hfz16_0
                try clear hfz16_1
                try clear hfz16_2
                try clear hfz28_0
                try clear hfz28_1
                try clear hfz28_2
                try clear p1
                try clear p13
                try clear p2
                try clear p23
                try clear p36
                try clear p38
                try clear p5
                try clear p6
                try clear q1
                try clear q13
                try clear q2
                try clear q23
                try clear q36
                try clear q38
                try clear q5
                obtain ⟨kq, x90_32, rfl, HA, HJ32, BK102, HB⟩ := hcut
                cases kq with
                | zero => exact absurd HA.out (by simp [emendref2_Split.j5])
                | succ kj32 =>
                 have H := HA.out
                 clear HA
                 simp only [emendref2_Split.j5] at H
                 have HC39 := Aside0.mk H
                 clear H
                 go_upto_if 90 with (fail)
                 go_cut [5, 9, 10] (fun v5 v9 v10 wc => ∃ (kq : Nat) (x5_38 : Int) (x9_38 : ByteArray) (x10_38 : Bool) (x103000_38 : Bool) (x103001_38 : ByteArray) (x103002_38 : Int), v5 = .int .i64 x5_38 ∧ v9 = .string x9_38 ∧ v10 = .bool x10_38 ∧ Aside0 (emendref2_Split.j7 kq a0 x5_38 (a0.extract (x4_5 : Int).toNat (t103 : Int).toNat) x7_23 x9_38 x10_38 = some (r1, r2, r3, r4)) ∧ Aside0 (kq ≤ kj32) ∧ Aside0 (wc.heap[gb102]? = some (.cells #[.bool x103000_38, .string x103001_38, .int .i64 x103002_38] 28 (0, 0))) ∧ Aside0 (Below w.heap.size w wc))
                 case first =>
                  have H := HC39.out
                  clear HC39
                  by_cases c40 : x90_32 = true
                  ·
                   subst c40
                   have H1 : (if (wrap64 (x5_23 + 1)) < (a0.size : Int) then (if 0 ≤ (wrap64 (x5_23 + 1)) then (if (bt a0 (wrap64 (x5_23 + 1))) = 43 then (emendref2_Split.j6 kj32 a0 (wrap64 (x5_23 + 1)) (a0.extract (x4_5 : Int).toNat (t103 : Int).toNat) x7_23 false true) else (emendref2_Split.j6 kj32 a0 (wrap64 (x5_23 + 1)) (a0.extract (x4_5 : Int).toNat (t103 : Int).toNat) x7_23 false ((bt a0 (wrap64 (x5_23 + 1))) == 45))) else (none)) else (emendref2_Split.j6 kj32 a0 (wrap64 (x5_23 + 1)) (a0.extract (x4_5 : Int).toNat (t103 : Int).toNat) x7_23 false false)) = some (r1, r2, r3, r4) := by rw [if_pos rfl] at H; exact H
                   clear H
                   have H := H1
                   clear H1
                   have HC41 := Aside0.mk H
                   clear H
                   go_upto_region 19 with (fail)
                   go_cut [108] (fun v108 wc => ∃ (kq : Nat) (x108_40 : Bool), v108 = .bool x108_40 ∧ Aside0 (emendref2_Split.j6 kq a0 (wrap64 (x5_23 + 1)) (a0.extract (x4_5 : Int).toNat (t103 : Int).toNat) x7_23 false x108_40 = some (r1, r2, r3, r4)) ∧ Aside0 (kq ≤ kj32) ∧ Aside0 (wc.heap[gb102]? = some (.cells #[.bool x103000_23, .string x103001_23, .int .i64 x103002_23] 28 (0, 0))) ∧ Aside0 (Below w.heap.size w wc))
                   case first =>
                    have H := HC41.out
                    clear HC41
                    by_cases c42 : (wrap64 (x5_23 + 1)) < (a0.size : Int)
                    ·
                     rw [if_pos c42] at H
                     have c42b0 : decide ((wrap64 (x5_23 + 1)) < (a0.size : Int)) = true := decide_eq_true c42
                     clear c42
                     (first | rw [c42b0] | (simp only [i64_w, i32_w]; rw [c42b0]) | skip)
                     obtain ⟨ji43, hji43⟩ : ∃ j_ : Int, (wrap64 (x5_23 + 1)) = j_ := ⟨_, rfl⟩
                     replace H : (if 0 ≤ (ji43) then (if (bt a0 (ji43)) = 43 then (emendref2_Split.j6 kj32 a0 ji43 (a0.extract (x4_5 : Int).toNat (t103 : Int).toNat) x7_23 false true) else (emendref2_Split.j6 kj32 a0 ji43 (a0.extract (x4_5 : Int).toNat (t103 : Int).toNat) x7_23 false ((bt a0 (ji43)) == 45))) else (none)) = some (r1, r2, r3, r4) := by first | (rw [hji43] at H; exact H) | (simp only [hji43] at H ⊢; exact H)
                     (try rw [hji43] at c42b0)
                     have hji43w : (IntKind.i64.wrap (x5_23 + 1)) = ji43 := (i64_w _).trans hji43
                     by_cases c44 : 0 ≤ (ji43)
                     ·
                      rw [if_pos c44] at H
                      have c44b0 : decide (0 ≤ (ji43)) = true := decide_eq_true c44
                      clear c44
                      by_cases c46 : (bt a0 (ji43)) = 43
                      ·
                       rw [if_pos c46] at H
                       have c46b0 : ((bt a0 (ji43)) == 43) = true := beq_iff_eq.mpr c46
                       have c46b1 : ((bt a0 (ji43)) != 43) = false := bne_eq_false_iff_eq.mpr c46
                       clear c46
                       have H' := Aside0.mk H
                       clear H
                       have p45 : 0 ≤ ((ji43) : Int) := of_decide_eq_true (by first | (with_reducible assumption) | assumption)
                       have q45 : (ji43) < (a0.size : Int) := of_decide_eq_true (by first | (with_reducible assumption) | assumption)
                       have hx45 := bt_at a0 (ji43)
                       replace p45 := eq_true p45
                       replace q45 := eq_true q45
                       go_wp2
                       go_meet
                       case rel => exact ⟨_, (true), (by first | rfl | (simp; done) | (simp [*]; done) | (congr 1; unfold wrap64; omega)), (by first | (with_reducible exact H') | exact H' | (rw [hji43]; exact H') | (simp only [hji43]; exact H')), ⟨by have := HJ1.out; have := HJ5.out; have := HJ8.out; have := HJ19.out; have := HJ23.out; have := HJ32.out; first | omega | exact Nat.le_refl _⟩, ⟨by (with_reducible repeat (first | refine blk_drewN ?_ _ | refine blk_drew ?_ | refine blk_alloc ?_ _)); exact BK102.out⟩, ⟨by repeat (first | (with_reducible first | exact HB.out | apply below_alloc | apply pw_below_drewN | apply below_drew1 | refine below_set ?_ GE102.out) | exact HB.out)⟩⟩
                      ·
                       rw [if_neg c46] at H
                       have c46b0 : ((bt a0 (ji43)) == 43) = false := beq_eq_false_iff_ne.mpr c46
                       have c46b1 : ((bt a0 (ji43)) != 43) = true := bne_iff_ne.mpr c46
                       have H' := Aside0.mk H
                       clear H
                       have p45 : 0 ≤ ((ji43) : Int) := of_decide_eq_true (by first | (with_reducible assumption) | assumption)
                       have q45 : (ji43) < (a0.size : Int) := of_decide_eq_true (by first | (with_reducible assumption) | assumption)
                       have hx45 := bt_at a0 (ji43)
                       replace p45 := eq_true p45
                       replace q45 := eq_true q45
                       have p47 : 0 ≤ ((ji43) : Int) := of_decide_eq_true (by first | (with_reducible assumption) | assumption)
                       have q47 : (ji43) < (a0.size : Int) := of_decide_eq_true (by first | (with_reducible assumption) | assumption)
                       have hx47 := bt_at a0 (ji43)
                       replace p47 := eq_true p47
                       replace q47 := eq_true q47
                       go_wp2
                       go_meet
                       case rel => exact ⟨_, (((bt a0 (ji43)) == 45)), (by first | rfl | (simp; done) | (simp only [← hji43] <;> (first | rfl | simp)) | (simp [*]; done)), (by first | (with_reducible exact H') | exact H' | (rw [hji43]; exact H') | (simp only [hji43]; exact H')), ⟨by have := HJ1.out; have := HJ5.out; have := HJ8.out; have := HJ19.out; have := HJ23.out; have := HJ32.out; first | omega | exact Nat.le_refl _⟩, ⟨by (with_reducible repeat (first | refine blk_drewN ?_ _ | refine blk_drew ?_ | refine blk_alloc ?_ _)); exact BK102.out⟩, ⟨by repeat (first | (with_reducible first | exact HB.out | apply below_alloc | apply pw_below_drewN | apply below_drew1 | refine below_set ?_ GE102.out) | exact HB.out)⟩⟩
                     ·
                      rw [if_neg c44] at H
                      exact absurd H (by simp)
                    ·
                     rw [if_neg c42] at H
                     have c42b0 : decide ((wrap64 (x5_23 + 1)) < (a0.size : Int)) = false := decide_eq_false c42
                     clear c42
                     (first | rw [c42b0] | (simp only [i64_w, i32_w]; rw [c42b0]) | skip)
                     have H' := Aside0.mk H
                     clear H
                     go_wp2
                     go_meet
                     case rel => exact ⟨_, (false), (by first | rfl | (simp; done) | (simp [*]; done) | (congr 1; unfold wrap64; omega)), (by first | (with_reducible exact H') | exact H' | (rw [hji43]; exact H') | (simp only [hji43]; exact H')), ⟨by have := HJ1.out; have := HJ5.out; have := HJ8.out; have := HJ19.out; have := HJ23.out; have := HJ32.out; first | omega | exact Nat.le_refl _⟩, ⟨by (with_reducible repeat (first | refine blk_drewN ?_ _ | refine blk_drew ?_ | refine blk_alloc ?_ _)); exact BK102.out⟩, ⟨by repeat (first | (with_reducible first | exact HB.out | apply below_alloc | apply pw_below_drewN | apply below_drew1 | refine below_set ?_ GE102.out) | exact HB.out)⟩⟩
                   case rest => as_aux_lemma =>
                    clear HC41
                    try clear c1
                    try clear p1
                    try clear q1
                    try clear hx1
                    try clear c2
                    try clear p2
                    try clear q2
                    try clear hx2
                    try clear c3
                    try clear p3
                    try clear q3
                    try clear hx3
                    try clear c4
                    try clear c4b0
                    try clear c4b1
                    try clear p4
                    try clear q4
                    try clear hx4
                    try clear p5
                    try clear q5
                    try clear hx5
                    try clear qi5
                    try clear p6
                    try clear c7
                    try clear c9
                    try clear c10
                    try clear c10b0
                    try clear c10b1
                    try clear c11
                    try clear c11b0
                    try clear c12
                    try clear c12b0
                    try clear p13
                    try clear q13
                    try clear hx13
                    try clear c14
                    try clear c14b0
                    try clear c14b1
                    try clear c15
                    try clear c17
                    try clear c17b0
                    try clear c17b1
                    try clear c18
                    try clear c18b0
                    try clear c18b1
                    try clear c19
                    try clear c19b0
                    try clear c19b1
                    try clear c21
                    try clear c21b0
                    try clear c22
                    try clear c22b0
                    try clear c23
                    try clear p23
                    try clear q23
                    try clear hx23
                    try clear c25
                    try clear c27
                    try clear c27b0
                    try clear c27b1
                    try clear c30
                    try clear c30b0
                    try clear c30b1
                    try clear c31
                    try clear c31b0
                    try clear c31b1
                    try clear c32
                    try clear c32b0
                    try clear c32b1
                    try clear c34
                    try clear c34b0
                    try clear c35
                    try clear c35b0
                    try clear p36
                    try clear q36
                    try clear hx36
                    try clear c37
                    try clear c37b0
                    try clear c37b1
                    try clear p38
                    try clear q38
                    try clear hx38
                    try clear c40
                    try clear c42
                    try clear c42b0
                    try clear c44
                    try clear c44b0
                    try clear p45
                    try clear q45
                    try clear hx45
                    try clear c46
                    try clear c46b0
                    try clear c46b1
                    try clear p47
                    try clear q47
                    try clear hx47
                    try clear hcz16_0
                    try clear hcz16_1
                    try clear hcz16_2
                    try clear hcz28_0
                    try clear hcz28_1
                    try clear hcz28_2
                    try clear hfz16_0
                    try clear hfz16_1
                    try clear hfz16_2
                    try clear hfz28_0
                    try clear hfz28_1
                    try clear hfz28_2
                    try clear p1
                    try clear p13
                    try clear p2
                    try clear p23
                    try clear p3
                    try clear p36
                    try clear p38
                    try clear p45
                    try clear p47
                    try clear p5
                    try clear p6
                    try clear q1
                    try clear q13
                    try clear q2
                    try clear q23
                    try clear q3
                    try clear q36
                    try clear q38
                    try clear q45
                    try clear q47
                    try clear q5
                    obtain ⟨kq, x108_40, rfl, HA, HJ40, BK102, HB⟩ := hcut
                    cases kq with
                    | zero => exact absurd HA.out (by simp [emendref2_Split.j6])
                    | succ kj40 =>
                     have H := HA.out
                     clear HA
                     simp only [emendref2_Split.j6] at H
                     by_cases c48 : x108_40 = true
                     ·
                      subst c48
                      have H1 : (if 0 ≤ (wrap64 (x5_23 + 1)) then (if (wrap64 (x5_23 + 1)) < (a0.size : Int) then ((emendref2_run.f kj40 a0 (wrap64 ((wrap64 (x5_23 + 1)) + 1))).bind fun t105 => (if t105 = (wrap64 ((wrap64 (x5_23 + 1)) + 1)) then (some (false, (⟨#[]⟩ : ByteArray), 0, 12)) else (if 0 ≤ (wrap64 ((wrap64 (x5_23 + 1)) + 1)) then (if (wrap64 ((wrap64 (x5_23 + 1)) + 1)) ≤ t105 then (if t105 ≤ (a0.size : Int) then (emendref2_Split.j7 kj40 a0 t105 (a0.extract (x4_5 : Int).toNat (t103 : Int).toNat) x7_23 (a0.extract ((wrap64 ((wrap64 (x5_23 + 1)) + 1)) : Int).toNat (t105 : Int).toNat) ((bt a0 (wrap64 (x5_23 + 1))) == 45)) else (none)) else (none)) else (none)))) else (none)) else (none)) = some (r1, r2, r3, r4) := by rw [if_pos rfl] at H; exact H
                      clear H
                      have H := H1
                      clear H1
                      obtain ⟨ji49, hji49⟩ : ∃ j_ : Int, (wrap64 (x5_23 + 1)) = j_ := ⟨_, rfl⟩
                      replace H : (if 0 ≤ (ji49) then (if (ji49) < (a0.size : Int) then ((emendref2_run.f kj40 a0 (wrap64 ((ji49) + 1))).bind fun t105 => (if t105 = (wrap64 ((ji49) + 1)) then (some (false, (⟨#[]⟩ : ByteArray), 0, 12)) else (if 0 ≤ (wrap64 ((ji49) + 1)) then (if (wrap64 ((ji49) + 1)) ≤ t105 then (if t105 ≤ (a0.size : Int) then (emendref2_Split.j7 kj40 a0 t105 (a0.extract (x4_5 : Int).toNat (t103 : Int).toNat) x7_23 (a0.extract ((wrap64 ((ji49) + 1)) : Int).toNat (t105 : Int).toNat) ((bt a0 (ji49)) == 45)) else (none)) else (none)) else (none)))) else (none)) else (none)) = some (r1, r2, r3, r4) := by first | (rw [hji49] at H; exact H) | (simp only [hji49] at H ⊢; exact H)
                      have hji49w : (IntKind.i64.wrap (x5_23 + 1)) = ji49 := (i64_w _).trans hji49
                      by_cases c50 : 0 ≤ (ji49)
                      ·
                       rw [if_pos c50] at H
                       have c50b0 : decide (0 ≤ (ji49)) = true := decide_eq_true c50
                       clear c50
                       by_cases c51 : (ji49) < (a0.size : Int)
                       ·
                        rw [if_pos c51] at H
                        have c51b0 : decide ((ji49) < (a0.size : Int)) = true := decide_eq_true c51
                        clear c51
                        replace H := Option.bind_eq_some_iff.mp H
                        obtain ⟨t105, A530, H⟩ := H
                        replace H : (if t105 = (wrap64 ((ji49) + 1)) then (some (false, (⟨#[]⟩ : ByteArray), 0, 12)) else (if 0 ≤ (wrap64 ((ji49) + 1)) then (if (wrap64 ((ji49) + 1)) ≤ t105 then (if t105 ≤ (a0.size : Int) then (emendref2_Split.j7 kj40 a0 t105 (a0.extract (x4_5 : Int).toNat (t103 : Int).toNat) x7_23 (a0.extract ((wrap64 ((ji49) + 1)) : Int).toNat (t105 : Int).toNat) ((bt a0 (ji49)) == 45)) else (none)) else (none)) else (none))) = some (r1, r2, r3, r4) := H
                        have A53 := Aside0.mk A530
                        clear A530
                        by_cases c54 : t105 = (wrap64 ((ji49) + 1))
                        ·
                         rw [if_pos c54] at H
                         have c54b0 : (t105 == (wrap64 ((ji49) + 1))) = true := beq_iff_eq.mpr c54
                         have c54b1 : (t105 != (wrap64 ((ji49) + 1))) = false := bne_eq_false_iff_eq.mpr c54
                         clear c54
                         simp only [Option.some.injEq, Prod.mk.injEq] at H
                         obtain ⟨rfl, rfl, rfl, rfl⟩ := H
                         have p52 : 0 ≤ ((ji49) : Int) := of_decide_eq_true (by first | (with_reducible assumption) | assumption)
                         have q52 : (ji49) < (a0.size : Int) := of_decide_eq_true (by first | (with_reducible assumption) | assumption)
                         have hx52 := bt_at a0 (ji49)
                         replace p52 := eq_true p52
                         replace q52 := eq_true q52
                         go_wp2_with (first | ((with_reducible refine gate_callee (f := 23) rfl ?_); refine goesL_ (some 117) rfl rfl Tryz.func23 (by kernel_rfl) rfl #[.string a0, .int .i64 (wrap64 ((ji49) + 1))] rfl (by (try simp only [List.map_toArray, List.map_cons, List.map_nil]); first | done | (simp only [hji49]; rfl) | rfl | (simp only [List.length_drop, List.length_take]; rfl)) ?_; (with_reducible refine (emendref2_run.calls kj40 a0 (wrap64 ((ji49) + 1)) t105 _ A53.out).mono ?_); rintro e w' ⟨rfl, ⟨nd, rfl⟩⟩; refine ⟨_, rfl, ?_⟩; (try (rw [drewN_self wc]; generalize hq_ : World.drewN wc _ = wc; have n0_ : Aside0 (wc.heap[gb102]? = some (.cells #[.bool x103000_23, .string x103001_23, .int .i64 x103002_23] 28 (0, 0))) := ⟨by rw [← hq_]; exact (by (with_reducible repeat (first | refine blk_drewN ?_ _ | refine blk_drew ?_ | refine blk_alloc ?_ _)); exact BK102.out)⟩; have n1_ : Aside0 (Below w.heap.size w wc) := ⟨by rw [← hq_]; exact (by repeat (first | (with_reducible first | exact HB.out | apply below_alloc | apply pw_below_drewN | apply below_drew1 | refine below_set ?_ GE102.out) | exact HB.out))⟩; clear BK102 HB hq_; have BK102 := n0_; have HB := n1_; clear n0_ n1_)); have hcz55_0 : wc.cell? ⟨gb102, 0, none⟩ = some (.bool x103000_23) := (blk_cell BK102.out 0).trans rfl; have hcz55_1 : wc.cell? ⟨gb102, 1, none⟩ = some (.string x103001_23) := (blk_cell BK102.out 1).trans rfl; have hcz55_2 : wc.cell? ⟨gb102, 2, none⟩ = some (.int .i64 x103002_23) := (blk_cell BK102.out 2).trans rfl; have hfz55_0 := blk_frozen BK102.out 0; have hfz55_1 := blk_frozen BK102.out 1; have hfz55_2 := blk_frozen BK102.out 2))
                         refine bodyPost_ret (results_ct rfl _ _ gb102 28 #[.bool false, .string (⟨#[]⟩ : ByteArray), .int .i64 0] (0, 0) _ rfl (by (with_reducible repeat (first | refine blk_drewN ?_ _ | refine blk_drew ?_ | refine blk_alloc ?_ _)); refine blk_put (cs := #[.bool false, .string (⟨#[]⟩ : ByteArray), .int .i64 x103002_23]) ?_ 2 _ rfl; (with_reducible repeat (first | refine blk_drewN ?_ _ | refine blk_drew ?_ | refine blk_alloc ?_ _)); refine blk_put (cs := #[.bool false, .string x103001_23, .int .i64 x103002_23]) ?_ 1 _ rfl; (with_reducible repeat (first | refine blk_drewN ?_ _ | refine blk_drew ?_ | refine blk_alloc ?_ _)); refine blk_put (cs := #[.bool x103000_23, .string x103001_23, .int .i64 x103002_23]) ?_ 0 _ rfl; (with_reducible repeat (first | refine blk_drewN ?_ _ | refine blk_drew ?_ | refine blk_alloc ?_ _)); exact BK102.out) Tryz.underlying28 rfl (by kernel_rfl)) rfl ?_
                         exact ⟨by first | rfl | (simp [errW_none, errW_some] <;> rfl) | (simp only [← hji49]; first | rfl | (simp [errW_none, errW_some] <;> rfl)) | (simp [*, errW_none, errW_some] <;> rfl), by repeat (first | (with_reducible first | exact HB.out | apply below_alloc | apply pw_below_drewN | apply below_drew1 | refine below_set ?_ GE102.out) | exact HB.out)⟩
                        ·
                         rw [if_neg c54] at H
                         have c54b0 : (t105 == (wrap64 ((ji49) + 1))) = false := beq_eq_false_iff_ne.mpr c54
                         have c54b1 : (t105 != (wrap64 ((ji49) + 1))) = true := bne_iff_ne.mpr c54
                         obtain ⟨ji56, hji56⟩ : ∃ j_ : Int, (wrap64 ((ji49) + 1)) = j_ := ⟨_, rfl⟩
                         replace H : (if 0 ≤ (ji56) then (if (ji56) ≤ t105 then (if t105 ≤ (a0.size : Int) then (emendref2_Split.j7 kj40 a0 t105 (a0.extract (x4_5 : Int).toNat (t103 : Int).toNat) x7_23 (a0.extract ((ji56) : Int).toNat (t105 : Int).toNat) ((bt a0 (ji49)) == 45)) else (none)) else (none)) else (none)) = some (r1, r2, r3, r4) := by first | (rw [hji56] at H; exact H) | (simp only [hji56] at H ⊢; exact H)
                         (try rw [hji56] at c54b0)
                         (try rw [hji56] at c54b1)
                         (try rw [hji56] at A53)
                         have hji56w : (IntKind.i64.wrap ((ji49) + 1)) = ji56 := (i64_w _).trans hji56
                         by_cases c57 : 0 ≤ (ji56)
                         ·
                          rw [if_pos c57] at H
                          have c57b0 := eq_true c57
                          have c57b1 : decide (0 ≤ (ji56)) = true := decide_eq_true c57
                          clear c57
                          by_cases c58 : (ji56) ≤ t105
                          ·
                           rw [if_pos c58] at H
                           have c58b0 := eq_true c58
                           have c58b1 : decide ((ji56) ≤ t105) = true := decide_eq_true c58
                           clear c58
                           by_cases c59 : t105 ≤ (a0.size : Int)
                           ·
                            rw [if_pos c59] at H
                            have c59b0 := eq_true c59
                            have c59b1 : decide (t105 ≤ (a0.size : Int)) = true := decide_eq_true c59
                            clear c59
                            have H' := Aside0.mk H
                            clear H
                            have p52 : 0 ≤ ((ji49) : Int) := of_decide_eq_true (by first | (with_reducible assumption) | assumption)
                            have q52 : (ji49) < (a0.size : Int) := of_decide_eq_true (by first | (with_reducible assumption) | assumption)
                            have hx52 := bt_at a0 (ji49)
                            replace p52 := eq_true p52
                            replace q52 := eq_true q52
                            go_wp2_with (first | ((with_reducible refine gate_callee (f := 23) rfl ?_); refine goesL_ (some 117) rfl rfl Tryz.func23 (by kernel_rfl) rfl #[.string a0, .int .i64 ji56] rfl (by (try simp only [List.map_toArray, List.map_cons, List.map_nil]); first | done | (simp only [hji56]; rfl) | rfl | (simp only [List.length_drop, List.length_take]; rfl)) ?_; (with_reducible refine (emendref2_run.calls kj40 a0 ji56 t105 _ A53.out).mono ?_); rintro e w' ⟨rfl, ⟨nd, rfl⟩⟩; refine ⟨_, rfl, ?_⟩))
                            go_meet
                            case rel => exact ⟨_, (t105), (a0.extract ((ji56) : Int).toNat (t105 : Int).toNat), (((bt a0 (ji49)) == 45)), (x103000_23), (x103001_23), (x103002_23), (by first | rfl | (simp; done) | (simp [*]; done) | (congr 1; unfold wrap64; omega)), (by first | rfl | (simp; done) | (simp only [← hji56] <;> (first | rfl | simp)) | (simp [*]; done)), (by first | rfl | (simp; done) | (simp only [← hji49] <;> (first | rfl | simp)) | (simp [*]; done)), (by first | (with_reducible exact H') | exact H' | (rw [hji56]; exact H') | (rw [hji49]; exact H') | (simp only [hji49, hji56]; exact H')), ⟨by have := HJ1.out; have := HJ5.out; have := HJ8.out; have := HJ19.out; have := HJ23.out; have := HJ32.out; have := HJ40.out; first | omega | exact Nat.le_refl _⟩, ⟨by (with_reducible repeat (first | refine blk_drewN ?_ _ | refine blk_drew ?_ | refine blk_alloc ?_ _)); exact BK102.out⟩, ⟨by repeat (first | (with_reducible first | exact HB.out | apply below_alloc | apply pw_below_drewN | apply below_drew1 | refine below_set ?_ GE102.out) | exact HB.out)⟩⟩
                           ·
                            rw [if_neg c59] at H
                            exact absurd H (by simp)
                          ·
                           rw [if_neg c58] at H
                           exact absurd H (by simp)
                         ·
                          rw [if_neg c57] at H
                          exact absurd H (by simp)
                       ·
                        rw [if_neg c51] at H
                        exact absurd H (by simp)
                      ·
                       rw [if_neg c50] at H
                       exact absurd H (by simp)
                     ·
                      replace c48 := Bool.eq_false_iff.mpr c48
                      subst c48
                      have H1 : ((emendref2_run.f kj40 a0 (wrap64 (x5_23 + 1))).bind fun t106 => (if t106 = (wrap64 (x5_23 + 1)) then (some (false, (⟨#[]⟩ : ByteArray), 0, 12)) else (if 0 ≤ (wrap64 (x5_23 + 1)) then (if (wrap64 (x5_23 + 1)) ≤ t106 then (if t106 ≤ (a0.size : Int) then (emendref2_Split.j7 kj40 a0 t106 (a0.extract (x4_5 : Int).toNat (t103 : Int).toNat) x7_23 (a0.extract ((wrap64 (x5_23 + 1)) : Int).toNat (t106 : Int).toNat) false) else (none)) else (none)) else (none)))) = some (r1, r2, r3, r4) := by rw [if_neg (show ¬ (false = true) by decide)] at H; exact H
                      clear H
                      have H := H1
                      clear H1
                      replace H := Option.bind_eq_some_iff.mp H
                      obtain ⟨t106, A600, H⟩ := H
                      replace H : (if t106 = (wrap64 (x5_23 + 1)) then (some (false, (⟨#[]⟩ : ByteArray), 0, 12)) else (if 0 ≤ (wrap64 (x5_23 + 1)) then (if (wrap64 (x5_23 + 1)) ≤ t106 then (if t106 ≤ (a0.size : Int) then (emendref2_Split.j7 kj40 a0 t106 (a0.extract (x4_5 : Int).toNat (t103 : Int).toNat) x7_23 (a0.extract ((wrap64 (x5_23 + 1)) : Int).toNat (t106 : Int).toNat) false) else (none)) else (none)) else (none))) = some (r1, r2, r3, r4) := H
                      have A60 := Aside0.mk A600
                      clear A600
                      by_cases c61 : t106 = (wrap64 (x5_23 + 1))
                      ·
                       rw [if_pos c61] at H
                       have c61b0 : (t106 == (wrap64 (x5_23 + 1))) = true := beq_iff_eq.mpr c61
                       have c61b1 : (t106 != (wrap64 (x5_23 + 1))) = false := bne_eq_false_iff_eq.mpr c61
                       clear c61
                       simp only [Option.some.injEq, Prod.mk.injEq] at H
                       obtain ⟨rfl, rfl, rfl, rfl⟩ := H
                       go_wp2_with (first | ((with_reducible refine gate_callee (f := 23) rfl ?_); refine goesL_ (some 117) rfl rfl Tryz.func23 (by kernel_rfl) rfl #[.string a0, .int .i64 (wrap64 (x5_23 + 1))] rfl (by (try simp only [List.map_toArray, List.map_cons, List.map_nil]); first | done | rfl | (simp only [List.length_drop, List.length_take]; rfl)) ?_; (with_reducible refine (emendref2_run.calls kj40 a0 (wrap64 (x5_23 + 1)) t106 _ A60.out).mono ?_); rintro e w' ⟨rfl, ⟨nd, rfl⟩⟩; refine ⟨_, rfl, ?_⟩; (try (rw [drewN_self wc]; generalize hq_ : World.drewN wc _ = wc; have n0_ : Aside0 (wc.heap[gb102]? = some (.cells #[.bool x103000_23, .string x103001_23, .int .i64 x103002_23] 28 (0, 0))) := ⟨by rw [← hq_]; exact (by (with_reducible repeat (first | refine blk_drewN ?_ _ | refine blk_drew ?_ | refine blk_alloc ?_ _)); exact BK102.out)⟩; have n1_ : Aside0 (Below w.heap.size w wc) := ⟨by rw [← hq_]; exact (by repeat (first | (with_reducible first | exact HB.out | apply below_alloc | apply pw_below_drewN | apply below_drew1 | refine below_set ?_ GE102.out) | exact HB.out))⟩; clear BK102 HB hq_; have BK102 := n0_; have HB := n1_; clear n0_ n1_)); have hcz62_0 : wc.cell? ⟨gb102, 0, none⟩ = some (.bool x103000_23) := (blk_cell BK102.out 0).trans rfl; have hcz62_1 : wc.cell? ⟨gb102, 1, none⟩ = some (.string x103001_23) := (blk_cell BK102.out 1).trans rfl; have hcz62_2 : wc.cell? ⟨gb102, 2, none⟩ = some (.int .i64 x103002_23) := (blk_cell BK102.out 2).trans rfl; have hfz62_0 := blk_frozen BK102.out 0; have hfz62_1 := blk_frozen BK102.out 1; have hfz62_2 := blk_frozen BK102.out 2))
                       refine bodyPost_ret (results_ct rfl _ _ gb102 28 #[.bool false, .string (⟨#[]⟩ : ByteArray), .int .i64 0] (0, 0) _ rfl (by (with_reducible repeat (first | refine blk_drewN ?_ _ | refine blk_drew ?_ | refine blk_alloc ?_ _)); refine blk_put (cs := #[.bool false, .string (⟨#[]⟩ : ByteArray), .int .i64 x103002_23]) ?_ 2 _ rfl; (with_reducible repeat (first | refine blk_drewN ?_ _ | refine blk_drew ?_ | refine blk_alloc ?_ _)); refine blk_put (cs := #[.bool false, .string x103001_23, .int .i64 x103002_23]) ?_ 1 _ rfl; (with_reducible repeat (first | refine blk_drewN ?_ _ | refine blk_drew ?_ | refine blk_alloc ?_ _)); refine blk_put (cs := #[.bool x103000_23, .string x103001_23, .int .i64 x103002_23]) ?_ 0 _ rfl; (with_reducible repeat (first | refine blk_drewN ?_ _ | refine blk_drew ?_ | refine blk_alloc ?_ _)); exact BK102.out) Tryz.underlying28 rfl (by kernel_rfl)) rfl ?_
                       exact ⟨by first | rfl | (simp [errW_none, errW_some] <;> rfl) | (simp [*, errW_none, errW_some] <;> rfl), by repeat (first | (with_reducible first | exact HB.out | apply below_alloc | apply pw_below_drewN | apply below_drew1 | refine below_set ?_ GE102.out) | exact HB.out)⟩
                      ·
                       rw [if_neg c61] at H
                       have c61b0 : (t106 == (wrap64 (x5_23 + 1))) = false := beq_eq_false_iff_ne.mpr c61
                       have c61b1 : (t106 != (wrap64 (x5_23 + 1))) = true := bne_iff_ne.mpr c61
                       obtain ⟨ji63, hji63⟩ : ∃ j_ : Int, (wrap64 (x5_23 + 1)) = j_ := ⟨_, rfl⟩
                       replace H : (if 0 ≤ (ji63) then (if (ji63) ≤ t106 then (if t106 ≤ (a0.size : Int) then (emendref2_Split.j7 kj40 a0 t106 (a0.extract (x4_5 : Int).toNat (t103 : Int).toNat) x7_23 (a0.extract ((ji63) : Int).toNat (t106 : Int).toNat) false) else (none)) else (none)) else (none)) = some (r1, r2, r3, r4) := by first | (rw [hji63] at H; exact H) | (simp only [hji63] at H ⊢; exact H)
                       (try rw [hji63] at c61b0)
                       (try rw [hji63] at c61b1)
                       (try rw [hji63] at A60)
                       have hji63w : (IntKind.i64.wrap (x5_23 + 1)) = ji63 := (i64_w _).trans hji63
                       by_cases c64 : 0 ≤ (ji63)
                       ·
                        rw [if_pos c64] at H
                        have c64b0 := eq_true c64
                        have c64b1 : decide (0 ≤ (ji63)) = true := decide_eq_true c64
                        clear c64
                        by_cases c65 : (ji63) ≤ t106
                        ·
                         rw [if_pos c65] at H
                         have c65b0 := eq_true c65
                         have c65b1 : decide ((ji63) ≤ t106) = true := decide_eq_true c65
                         clear c65
                         by_cases c66 : t106 ≤ (a0.size : Int)
                         ·
                          rw [if_pos c66] at H
                          have c66b0 := eq_true c66
                          have c66b1 : decide (t106 ≤ (a0.size : Int)) = true := decide_eq_true c66
                          clear c66
                          have H' := Aside0.mk H
                          clear H
                          go_wp2_with (first | ((with_reducible refine gate_callee (f := 23) rfl ?_); refine goesL_ (some 117) rfl rfl Tryz.func23 (by kernel_rfl) rfl #[.string a0, .int .i64 (ji63)] rfl (by (try simp only [List.map_toArray, List.map_cons, List.map_nil]); first | done | (simp only [hji63]; rfl) | rfl | (simp only [List.length_drop, List.length_take]; rfl)) ?_; (with_reducible refine (emendref2_run.calls kj40 a0 (ji63) t106 _ A60.out).mono ?_); rintro e w' ⟨rfl, ⟨nd, rfl⟩⟩; refine ⟨_, rfl, ?_⟩))
                          go_meet
                          case rel => exact ⟨_, (t106), (a0.extract ((ji63) : Int).toNat (t106 : Int).toNat), (false), (x103000_23), (x103001_23), (x103002_23), (by first | rfl | (simp; done) | (simp [*]; done) | (congr 1; unfold wrap64; omega)), (by first | rfl | (simp; done) | (simp only [← hji63] <;> (first | rfl | simp)) | (simp [*]; done)), (by first | rfl | (simp; done) | (simp [*]; done) | (congr 1; unfold wrap64; omega)), (by first | (with_reducible exact H') | exact H' | (rw [hji63]; exact H') | (rw [hji49]; exact H') | (simp only [hji49, hji63]; exact H')), ⟨by have := HJ1.out; have := HJ5.out; have := HJ8.out; have := HJ19.out; have := HJ23.out; have := HJ32.out; have := HJ40.out; first | omega | exact Nat.le_refl _⟩, ⟨by (with_reducible repeat (first | refine blk_drewN ?_ _ | refine blk_drew ?_ | refine blk_alloc ?_ _)); exact BK102.out⟩, ⟨by repeat (first | (with_reducible first | exact HB.out | apply below_alloc | apply pw_below_drewN | apply below_drew1 | refine below_set ?_ GE102.out) | exact HB.out)⟩⟩
                         ·
                          rw [if_neg c66] at H
                          exact absurd H (by simp)
                        ·
                         rw [if_neg c65] at H
                         exact absurd H (by simp)
                       ·
                        rw [if_neg c64] at H
                        exact absurd H (by simp)
                  ·
                   replace c40 := Bool.eq_false_iff.mpr c40
                   subst c40
                   have H1 : (emendref2_Split.j7 kj32 a0 x5_23 (a0.extract (x4_5 : Int).toNat (t103 : Int).toNat) x7_23 (⟨#[]⟩ : ByteArray) false) = some (r1, r2, r3, r4) := by rw [if_neg (show ¬ (false = true) by decide)] at H; exact H
                   clear H
                   have H := H1
                   clear H1
                   have H' := Aside0.mk H
                   clear H
                   go_wp2
                   go_meet
                   case rel => exact ⟨_, (x5_23), ((⟨#[]⟩ : ByteArray)), (false), (x103000_23), (x103001_23), (x103002_23), (by first | rfl | (simp; done) | (simp [*]; done) | (congr 1; unfold wrap64; omega)), (by first | rfl | (simp; done) | (simp [*]; done) | (congr 1; unfold wrap64; omega)), (by first | rfl | (simp; done) | (simp [*]; done) | (congr 1; unfold wrap64; omega)), H', ⟨by have := HJ1.out; have := HJ5.out; have := HJ8.out; have := HJ19.out; have := HJ23.out; have := HJ32.out; first | omega | exact Nat.le_refl _⟩, ⟨by (with_reducible repeat (first | refine blk_drewN ?_ _ | refine blk_drew ?_ | refine blk_alloc ?_ _)); exact BK102.out⟩, ⟨by repeat (first | (with_reducible first | exact HB.out | apply below_alloc | apply pw_below_drewN | apply below_drew1 | refine below_set ?_ GE102.out) | exact HB.out)⟩⟩
                 case rest => as_aux_lemma =>
                  clear HC39
                  try clear c1
                  try clear p1
                  try clear q1
                  try clear hx1
                  try clear c2
                  try clear p2
                  try clear q2
                  try clear hx2
                  try clear c3
                  try clear p3
                  try clear q3
                  try clear hx3
                  try clear c4
                  try clear c4b0
                  try clear c4b1
                  try clear p4
                  try clear q4
                  try clear hx4
                  try clear c5
                  try clear p5
                  try clear q5
                  try clear hx5
                  try clear qi5
                  try clear c6
                  try clear p6
                  try clear c7
                  try clear c9
                  try clear c10
                  try clear c10b0
                  try clear c10b1
                  try clear c11
                  try clear c11b0
                  try clear c12
                  try clear c12b0
                  try clear p13
                  try clear q13
                  try clear hx13
                  try clear c14
                  try clear c14b0
                  try clear c14b1
                  try clear c15
                  try clear c17
                  try clear c17b0
                  try clear c17b1
                  try clear c18
                  try clear c18b0
                  try clear c18b1
                  try clear c19
                  try clear c19b0
                  try clear c19b1
                  try clear c21
                  try clear c21b0
                  try clear c22
                  try clear c22b0
                  try clear c23
                  try clear p23
                  try clear q23
                  try clear hx23
                  try clear c25
                  try clear c27
                  try clear c27b0
                  try clear c27b1
                  try clear c30
                  try clear c30b0
                  try clear c30b1
                  try clear c31
                  try clear c31b0
                  try clear c31b1
                  try clear c32
                  try clear c32b0
                  try clear c32b1
                  try clear c34
                  try clear c34b0
                  try clear c35
                  try clear c35b0
                  try clear p36
                  try clear q36
                  try clear hx36
                  try clear c37
                  try clear c37b0
                  try clear c37b1
                  try clear p38
                  try clear q38
                  try clear hx38
                  try clear c40
                  try clear c42
                  try clear c42b0
                  try clear c44
                  try clear c44b0
                  try clear p45
                  try clear q45
                  try clear hx45
                  try clear c46
                  try clear c46b0
                  try clear c46b1
                  try clear p47
                  try clear q47
                  try clear hx47
                  try clear c48
                  try clear c50
                  try clear c50b0
                  try clear c51
                  try clear c51b0
                  try clear p52
                  try clear q52
                  try clear hx52
                  try clear c54
                  try clear c54b0
                  try clear c54b1
                  try clear c57
                  try clear c57b0
                  try clear c57b1
                  try clear c58
                  try clear c58b0
                  try clear c58b1
                  try clear c59
                  try clear c59b0
                  try clear c59b1
                  try clear c61
                  try clear c61b0
                  try clear c61b1
                  try clear c64
                  try clear c64b0
                  try clear c64b1
                  try clear p64
                  try clear c65
                  try clear c65b0
                  try clear c65b1
                  try clear c66
                  try clear c66b0
                  try clear c66b1
                  try clear hcz16_0
                  try clear hcz16_1
                  try clear hcz16_2
                  try clear hcz28_0
                  try clear hcz28_1
                  try clear hcz28_2
                  try clear hcz55_0
                  try clear hcz55_1
                  try clear hcz55_2
                  try clear hcz62_0
                  try clear hcz62_1
                  try clear hcz62_2
                  try clear hfz16_0
                  try clear hfz16_1
                  try clear hfz16_2
                  try clear hfz28_0
                  try clear hfz28_1
                  try clear hfz28_2
                  try clear hfz55_0
                  try clear hfz55_1
                  try clear hfz55_2
                  try clear hfz62_0
                  try clear hfz62_1
                  try clear hfz62_2
                  try clear p1
                  try clear p13
                  try clear p2
                  try clear p23
                  try clear p3
                  try clear p36
                  try clear p38
                  try clear p4
                  try clear p45
                  try clear p47
                  try clear p5
                  try clear p52
                  try clear p6
                  try clear q1
                  try clear q13
                  try clear q2
                  try clear q23
                  try clear q3
                  try clear q36
                  try clear q38
                  try clear q4
                  try clear q45
                  try clear q47
                  try clear q5
                  try clear q52
                  obtain ⟨kq, x5_38, x9_38, x10_38, x103000_38, x103001_38, x103002_38, rfl, rfl, rfl, HA, HJ38, BK102, HB⟩ := hcut
                  cases kq with
                  | zero => exact absurd HA.out (by simp [emendref2_Split.j7])
                  | succ kj38 =>
                   have H := HA.out
                   clear HA
                   simp only [emendref2_Split.j7] at H
                   by_cases c67 : x5_38 = (a0.size : Int)
                   ·
                    rw [if_pos c67] at H
                    have c67b0 : (x5_38 == (a0.size : Int)) = true := beq_iff_eq.mpr c67
                    have c67b1 : (x5_38 != (a0.size : Int)) = false := bne_eq_false_iff_eq.mpr c67
                    clear c67
                    by_cases c68 : (a0.size : Int) > 1000
                    ·
                     rw [if_pos c68] at H
                     have c68b0 : decide (1000 < (a0.size : Int)) = true := decide_eq_true c68
                     have c68b1 : decide (1000 < a0.size) = true := decide_eq_true (by omega)
                     clear c68
                     simp only [Option.some.injEq, Prod.mk.injEq] at H
                     obtain ⟨rfl, rfl, rfl, rfl⟩ := H
                     have hcz69_0 : wc.cell? ⟨gb102, 0, none⟩ = some (.bool x103000_38) := (blk_cell BK102.out 0).trans rfl
                     have hcz69_1 : wc.cell? ⟨gb102, 1, none⟩ = some (.string x103001_38) := (blk_cell BK102.out 1).trans rfl
                     have hcz69_2 : wc.cell? ⟨gb102, 2, none⟩ = some (.int .i64 x103002_38) := (blk_cell BK102.out 2).trans rfl
                     have hfz69_0 := blk_frozen BK102.out 0
                     have hfz69_1 := blk_frozen BK102.out 1
                     have hfz69_2 := blk_frozen BK102.out 2
                     go_wp2
                     refine bodyPost_ret (results_ct rfl _ _ gb102 28 #[.bool false, .string (⟨#[]⟩ : ByteArray), .int .i64 0] (0, 0) _ rfl (by (with_reducible repeat (first | refine blk_drewN ?_ _ | refine blk_drew ?_ | refine blk_alloc ?_ _)); refine blk_put (cs := #[.bool false, .string (⟨#[]⟩ : ByteArray), .int .i64 x103002_38]) ?_ 2 _ rfl; (with_reducible repeat (first | refine blk_drewN ?_ _ | refine blk_drew ?_ | refine blk_alloc ?_ _)); refine blk_put (cs := #[.bool false, .string x103001_38, .int .i64 x103002_38]) ?_ 1 _ rfl; (with_reducible repeat (first | refine blk_drewN ?_ _ | refine blk_drew ?_ | refine blk_alloc ?_ _)); refine blk_put (cs := #[.bool x103000_38, .string x103001_38, .int .i64 x103002_38]) ?_ 0 _ rfl; (with_reducible repeat (first | refine blk_drewN ?_ _ | refine blk_drew ?_ | refine blk_alloc ?_ _)); exact BK102.out) Tryz.underlying28 rfl (by kernel_rfl)) rfl ?_
                     exact ⟨by first | rfl | (simp [errW_none, errW_some] <;> rfl) | (simp [*, errW_none, errW_some] <;> rfl), by repeat (first | (with_reducible first | exact HB.out | apply below_alloc | apply pw_below_drewN | apply below_drew1 | refine below_set ?_ GE102.out) | exact HB.out)⟩
                    ·
                     rw [if_neg c68] at H
                     have c68b0 : decide (1000 < (a0.size : Int)) = false := decide_eq_false c68
                     have c68b1 : decide (1000 < a0.size) = false := decide_eq_false (by omega)
                     clear c68
                     have HC70 := Aside0.mk H
                     clear H
                     go_upto_block 0 with (fail)
                     go_cut [9] (fun v9 wc => ∃ (kq : Nat) (x9_69 : ByteArray), v9 = .string x9_69 ∧ Aside0 (emendref2_Split.j9 kq a0 (a0.extract (x4_5 : Int).toNat (t103 : Int).toNat) x7_23 x9_69 x10_38 = some (r1, r2, r3, r4)) ∧ Aside0 (kq ≤ kj38) ∧ Aside0 (wc.heap[gb102]? = some (.cells #[.bool x103000_38, .string x103001_38, .int .i64 x103002_38] 28 (0, 0))) ∧ Aside0 (Below w.heap.size w wc))
                     case first =>
                      have H := HC70.out
                      clear HC70
                      have H' := Aside0.mk H
                      clear H
                      go_wp2
                      go_loopg [9] kj38 (fun kq v9 w' => ∃ (x9_8 : ByteArray), v9 = .string x9_8 ∧ Aside0 (emendref2_Split.l0 kq a0 (a0.extract (x4_5 : Int).toNat (t103 : Int).toNat) x7_23 x9_8 x10_38 = some (r1, r2, r3, r4)) ∧ Aside0 (kq ≤ kj38) ∧ Aside0 (w'.heap[gb102]? = some (.cells #[.bool x103000_38, .string x103001_38, .int .i64 x103002_38] 28 (0, 0))) ∧ Aside0 (Below w.heap.size w w'))
                      case atStart => exact ⟨(x9_38), (by first | rfl | (simp; done) | (simp [*]; done) | (congr 1; unfold wrap64; omega)), H', ⟨Nat.le_refl _⟩, ⟨by (with_reducible repeat (first | refine blk_drewN ?_ _ | refine blk_drew ?_ | refine blk_alloc ?_ _)); exact BK102.out⟩, ⟨by repeat (first | (with_reducible first | exact HB.out | apply below_alloc | apply pw_below_drewN | apply below_drew1 | refine below_set ?_ GE102.out) | exact HB.out)⟩⟩
                      case round =>
                       clear H'
                       try clear c1
                       try clear p1
                       try clear q1
                       try clear hx1
                       try clear c2
                       try clear p2
                       try clear q2
                       try clear hx2
                       try clear c3
                       try clear p3
                       try clear q3
                       try clear hx3
                       try clear c4
                       try clear c4b0
                       try clear c4b1
                       try clear p4
                       try clear q4
                       try clear hx4
                       try clear c5
                       try clear p5
                       try clear q5
                       try clear hx5
                       try clear qi5
                       try clear c6
                       try clear p6
                       try clear c7
                       try clear c9
                       try clear c10
                       try clear c10b0
                       try clear c10b1
                       try clear c11
                       try clear c11b0
                       try clear c12
                       try clear c12b0
                       try clear p13
                       try clear q13
                       try clear hx13
                       try clear c14
                       try clear c14b0
                       try clear c14b1
                       try clear c15
                       try clear c17
                       try clear c17b0
                       try clear c17b1
                       try clear c18
                       try clear c18b0
                       try clear c18b1
                       try clear c19
                       try clear c19b0
                       try clear c19b1
                       try clear c21
                       try clear c21b0
                       try clear c22
                       try clear c22b0
                       try clear c23
                       try clear p23
                       try clear q23
                       try clear hx23
                       try clear c25
                       try clear c27
                       try clear c27b0
                       try clear c27b1
                       try clear c30
                       try clear c30b0
                       try clear c30b1
                       try clear c31
                       try clear c31b0
                       try clear c31b1
                       try clear c32
                       try clear c32b0
                       try clear c32b1
                       try clear c34
                       try clear c34b0
                       try clear c35
                       try clear c35b0
                       try clear p36
                       try clear q36
                       try clear hx36
                       try clear c37
                       try clear c37b0
                       try clear c37b1
                       try clear p38
                       try clear q38
                       try clear hx38
                       try clear c40
                       try clear c42
                       try clear c42b0
                       try clear c44
                       try clear c44b0
                       try clear p45
                       try clear q45
                       try clear hx45
                       try clear c46
                       try clear c46b0
                       try clear c46b1
                       try clear p47
                       try clear q47
                       try clear hx47
                       try clear c48
                       try clear c50
                       try clear c50b0
                       try clear c51
                       try clear c51b0
                       try clear p52
                       try clear q52
                       try clear hx52
                       try clear c54
                       try clear c54b0
                       try clear c54b1
                       try clear c57
                       try clear c57b0
                       try clear c57b1
                       try clear c58
                       try clear c58b0
                       try clear c58b1
                       try clear c59
                       try clear c59b0
                       try clear c59b1
                       try clear c61
                       try clear c61b0
                       try clear c61b1
                       try clear c64
                       try clear c64b0
                       try clear c64b1
                       try clear p64
                       try clear c65
                       try clear c65b0
                       try clear c65b1
                       try clear c66
                       try clear c66b0
                       try clear c66b1
                       try clear c67
                       try clear c67b0
                       try clear c67b1
                       try clear c68
                       try clear c68b0
                       try clear c68b1
                       try clear hcz16_0
                       try clear hcz16_1
                       try clear hcz16_2
                       try clear hcz28_0
                       try clear hcz28_1
                       try clear hcz28_2
                       try clear hcz55_0
                       try clear hcz55_1
                       try clear hcz55_2
                       try clear hcz62_0
                       try clear hcz62_1
                       try clear hcz62_2
                       try clear hcz69_0
                       try clear hcz69_1
                       try clear hcz69_2
                       try clear hfz16_0
                       try clear hfz16_1
                       try clear hfz16_2
                       try clear hfz28_0
                       try clear hfz28_1
                       try clear hfz28_2
                       try clear hfz55_0
                       try clear hfz55_1
                       try clear hfz55_2
                       try clear hfz62_0
                       try clear hfz62_1
                       try clear hfz62_2
                       try clear hfz69_0
                       try clear hfz69_1
                       try clear hfz69_2
                       try clear p1
                       try clear p13
                       try clear p2
                       try clear p23
                       try clear p3
                       try clear p36
                       try clear p38
                       try clear p4
                       try clear p45
                       try clear p47
                       try clear p5
                       try clear p52
                       try clear p6
                       try clear p64
                       try clear q1
                       try clear q13
                       try clear q2
                       try clear q23
                       try clear q3
                       try clear q36
                       try clear q38
                       try clear q4
                       try clear q45
                       try clear q47
                       try clear q5
                       try clear q52
                       obtain ⟨x9_8, rfl, HA, HK8, BK102, HB⟩ := hrel
                       cases gk with
                       | zero => exact absurd HA.out (by simp [emendref2_Split.l0])
                       | succ k8 =>
                        have H := HA.out
                        clear HA
                        simp only [emendref2_Split.l0] at H
                        by_cases c71 : (x9_8.size : Int) > 0
                        ·
                         rw [if_pos c71] at H
                         have c71b0 : decide (0 < (x9_8.size : Int)) = true := decide_eq_true c71
                         have c71b1 : decide (0 < x9_8.size) = true := decide_eq_true (by omega)
                         clear c71
                         (first | rw [c71b0] | (simp only [i64_w, i32_w]; rw [c71b0]) | skip)
                         by_cases c72 : 0 < (x9_8.size : Int)
                         ·
                          rw [if_pos c72] at H
                          have c72b0 : decide (0 < (x9_8.size : Int)) = true := decide_eq_true c72
                          have c72b1 : decide (0 < x9_8.size) = true := decide_eq_true (by omega)
                          clear c72
                          by_cases c74 : (bt x9_8 0) = 48
                          ·
                           rw [if_pos c74] at H
                           have c74b0 : ((bt x9_8 0) == 48) = true := beq_iff_eq.mpr c74
                           have c74b1 : ((bt x9_8 0) != 48) = false := bne_eq_false_iff_eq.mpr c74
                           clear c74
                           by_cases c75 : 1 ≤ (x9_8.size : Int)
                           ·
                            rw [if_pos c75] at H
                            have c75b0 := eq_true c75
                            have c75b1 : decide (1 ≤ (x9_8.size : Int)) = true := decide_eq_true c75
                            clear c75
                            have H' := Aside0.mk H
                            clear H
                            have p73 : 0 ≤ (0 : Int) := (by omega)
                            have q73 : 0 < x9_8.size := (by have : (0 : Int) < (x9_8.size : Int) := of_decide_eq_true (by first | (with_reducible assumption) | assumption); omega)
                            have hx73 : ∀ h : 0 < x9_8.size, ((x9_8[0]'h).toNat : Int) = bt x9_8 0 := bt_at x9_8 0
                            clear p73
                            have qi73 : (0 < (x9_8.size : Int)) = True := eq_true (of_decide_eq_true (by first | (with_reducible assumption) | assumption))
                            replace q73 := eq_true q73
                            go_wp2
                            go_roundg k8
                            case measure => have := HJ1.out; have := HJ5.out; have := HJ8.out; have := HJ19.out; have := HJ23.out; have := HJ32.out; have := HJ38.out; have := HK8.out; omega
                            case rel => exact ⟨(x9_8.extract 1 x9_8.size), (by first | rfl | (simp; done) | (simp [*]; done) | (congr 1; unfold wrap64; omega)), H', ⟨by have := HJ1.out; have := HJ5.out; have := HJ8.out; have := HJ19.out; have := HJ23.out; have := HJ32.out; have := HJ38.out; have := HK8.out; omega⟩, ⟨by (with_reducible repeat (first | refine blk_drewN ?_ _ | refine blk_drew ?_ | refine blk_alloc ?_ _)); exact BK102.out⟩, ⟨by repeat (first | (with_reducible first | exact HB.out | apply below_alloc | apply pw_below_drewN | apply below_drew1 | refine below_set ?_ GE102.out) | exact HB.out)⟩⟩
                           ·
                            rw [if_neg c75] at H
                            exact absurd H (by simp)
                          ·
                           rw [if_neg c74] at H
                           have c74b0 : ((bt x9_8 0) == 48) = false := beq_eq_false_iff_ne.mpr c74
                           have c74b1 : ((bt x9_8 0) != 48) = true := bne_iff_ne.mpr c74
                           have H' := Aside0.mk H
                           clear H
                           have p73 : 0 ≤ (0 : Int) := (by omega)
                           have q73 : 0 < x9_8.size := (by have : (0 : Int) < (x9_8.size : Int) := of_decide_eq_true (by first | (with_reducible assumption) | assumption); omega)
                           have hx73 : ∀ h : 0 < x9_8.size, ((x9_8[0]'h).toNat : Int) = bt x9_8 0 := bt_at x9_8 0
                           clear p73
                           have qi73 : (0 < (x9_8.size : Int)) = True := eq_true (of_decide_eq_true (by first | (with_reducible assumption) | assumption))
                           replace q73 := eq_true q73
                           go_wp2
                           go_meet
                           case rel => exact ⟨_, (x9_8), (by first | rfl | (simp; done) | (simp [*]; done) | (congr 1; unfold wrap64; omega)), H', ⟨by have := HJ1.out; have := HJ5.out; have := HJ8.out; have := HJ19.out; have := HJ23.out; have := HJ32.out; have := HJ38.out; have := HK8.out; first | omega | exact Nat.le_refl _⟩, ⟨by (with_reducible repeat (first | refine blk_drewN ?_ _ | refine blk_drew ?_ | refine blk_alloc ?_ _)); exact BK102.out⟩, ⟨by repeat (first | (with_reducible first | exact HB.out | apply below_alloc | apply pw_below_drewN | apply below_drew1 | refine below_set ?_ GE102.out) | exact HB.out)⟩⟩
                         ·
                          rw [if_neg c72] at H
                          exact absurd H (by simp)
                        ·
                         rw [if_neg c71] at H
                         have c71b0 : decide (0 < (x9_8.size : Int)) = false := decide_eq_false c71
                         have c71b1 : decide (0 < x9_8.size) = false := decide_eq_false (by omega)
                         clear c71
                         (first | rw [c71b0] | (simp only [i64_w, i32_w]; rw [c71b0]) | skip)
                         have H' := Aside0.mk H
                         clear H
                         go_wp2
                         go_meet
                         case rel => exact ⟨_, (x9_8), (by first | rfl | (simp; done) | (simp [*]; done) | (congr 1; unfold wrap64; omega)), H', ⟨by have := HJ1.out; have := HJ5.out; have := HJ8.out; have := HJ19.out; have := HJ23.out; have := HJ32.out; have := HJ38.out; have := HK8.out; first | omega | exact Nat.le_refl _⟩, ⟨by (with_reducible repeat (first | refine blk_drewN ?_ _ | refine blk_drew ?_ | refine blk_alloc ?_ _)); exact BK102.out⟩, ⟨by repeat (first | (with_reducible first | exact HB.out | apply below_alloc | apply pw_below_drewN | apply below_drew1 | refine below_set ?_ GE102.out) | exact HB.out)⟩⟩
                     case rest => as_aux_lemma =>
                      clear HC70
                      try clear c1
                      try clear p1
                      try clear q1
                      try clear hx1
                      try clear c2
                      try clear p2
                      try clear q2
                      try clear hx2
                      try clear c3
                      try clear p3
                      try clear q3
                      try clear hx3
                      try clear c4
                      try clear c4b0
                      try clear c4b1
                      try clear p4
                      try clear q4
                      try clear hx4
                      try clear c5
                      try clear p5
                      try clear q5
                      try clear hx5
                      try clear qi5
                      try clear c6
                      try clear p6
                      try clear c7
                      try clear p7
                      try clear q7
                      try clear hx7
                      try clear qi7
                      try clear c9
                      try clear c10
                      try clear c10b0
                      try clear c10b1
                      try clear c11
                      try clear c11b0
                      try clear c12
                      try clear c12b0
                      try clear p13
                      try clear q13
                      try clear hx13
                      try clear c14
                      try clear c14b0
                      try clear c14b1
                      try clear c15
                      try clear c17
                      try clear c17b0
                      try clear c17b1
                      try clear c18
                      try clear c18b0
                      try clear c18b1
                      try clear c19
                      try clear c19b0
                      try clear c19b1
                      try clear c21
                      try clear c21b0
                      try clear c22
                      try clear c22b0
                      try clear c23
                      try clear p23
                      try clear q23
                      try clear hx23
                      try clear c25
                      try clear c27
                      try clear c27b0
                      try clear c27b1
                      try clear c30
                      try clear c30b0
                      try clear c30b1
                      try clear c31
                      try clear c31b0
                      try clear c31b1
                      try clear c32
                      try clear c32b0
                      try clear c32b1
                      try clear c34
                      try clear c34b0
                      try clear c35
                      try clear c35b0
                      try clear p36
                      try clear q36
                      try clear hx36
                      try clear c37
                      try clear c37b0
                      try clear c37b1
                      try clear p38
                      try clear q38
                      try clear hx38
                      try clear c40
                      try clear c42
                      try clear c42b0
                      try clear c44
                      try clear c44b0
                      try clear p45
                      try clear q45
                      try clear hx45
                      try clear c46
                      try clear c46b0
                      try clear c46b1
                      try clear p47
                      try clear q47
                      try clear hx47
                      try clear c48
                      try clear c50
                      try clear c50b0
                      try clear c51
                      try clear c51b0
                      try clear p52
                      try clear q52
                      try clear hx52
                      try clear c54
                      try clear c54b0
                      try clear c54b1
                      try clear c57
                      try clear c57b0
                      try clear c57b1
                      try clear c58
                      try clear c58b0
                      try clear c58b1
                      try clear c59
                      try clear c59b0
                      try clear c59b1
                      try clear c61
                      try clear c61b0
                      try clear c61b1
                      try clear c64
                      try clear c64b0
                      try clear c64b1
                      try clear p64
                      try clear c65
                      try clear c65b0
                      try clear c65b1
                      try clear c66
                      try clear c66b0
                      try clear c66b1
                      try clear c67
                      try clear c67b0
                      try clear c67b1
                      try clear c68
                      try clear c68b0
                      try clear c68b1
                      try clear c71
                      try clear c71b0
                      try clear c71b1
                      try clear c72
                      try clear c72b0
                      try clear c72b1
                      try clear p73
                      try clear q73
                      try clear hx73
                      try clear qi73
                      try clear c74
                      try clear c74b0
                      try clear c74b1
                      try clear c75
                      try clear c75b0
                      try clear c75b1
                      try clear hcz16_0
                      try clear hcz16_1
                      try clear hcz16_2
                      try clear hcz28_0
                      try clear hcz28_1
                      try clear hcz28_2
                      try clear hcz55_0
                      try clear hcz55_1
                      try clear hcz55_2
                      try clear hcz62_0
                      try clear hcz62_1
                      try clear hcz62_2
                      try clear hcz69_0
                      try clear hcz69_1
                      try clear hcz69_2
                      try clear hfz16_0
                      try clear hfz16_1
                      try clear hfz16_2
                      try clear hfz28_0
                      try clear hfz28_1
                      try clear hfz28_2
                      try clear hfz55_0
                      try clear hfz55_1
                      try clear hfz55_2
                      try clear hfz62_0
                      try clear hfz62_1
                      try clear hfz62_2
                      try clear hfz69_0
                      try clear hfz69_1
                      try clear hfz69_2
                      try clear p1
                      try clear p13
                      try clear p2
                      try clear p23
                      try clear p3
                      try clear p36
                      try clear p38
                      try clear p4
                      try clear p45
                      try clear p47
                      try clear p5
                      try clear p52
                      try clear p6
                      try clear p64
                      try clear p73
                      try clear q1
                      try clear q13
                      try clear q2
                      try clear q23
                      try clear q3
                      try clear q36
                      try clear q38
                      try clear q4
                      try clear q45
                      try clear q47
                      try clear q5
                      try clear q52
                      try clear q73
                      obtain ⟨kq, x9_69, rfl, HA, HJ69, BK102, HB⟩ := hcut
                      cases kq with
                      | zero => exact absurd HA.out (by simp [emendref2_Split.j9])
                      | succ kj69 =>
                       have H := HA.out
                       clear HA
                       simp only [emendref2_Split.j9] at H
                       by_cases c76 : (x9_69.size : Int) > 6
                       ·
                        rw [if_pos c76] at H
                        have c76b0 : decide (6 < (x9_69.size : Int)) = true := decide_eq_true c76
                        have c76b1 : decide (6 < x9_69.size) = true := decide_eq_true (by omega)
                        clear c76
                        simp only [Option.some.injEq, Prod.mk.injEq] at H
                        obtain ⟨rfl, rfl, rfl, rfl⟩ := H
                        have hcz77_0 : wc.cell? ⟨gb102, 0, none⟩ = some (.bool x103000_38) := (blk_cell BK102.out 0).trans rfl
                        have hcz77_1 : wc.cell? ⟨gb102, 1, none⟩ = some (.string x103001_38) := (blk_cell BK102.out 1).trans rfl
                        have hcz77_2 : wc.cell? ⟨gb102, 2, none⟩ = some (.int .i64 x103002_38) := (blk_cell BK102.out 2).trans rfl
                        have hfz77_0 := blk_frozen BK102.out 0
                        have hfz77_1 := blk_frozen BK102.out 1
                        have hfz77_2 := blk_frozen BK102.out 2
                        go_wp2
                        refine bodyPost_ret (results_ct rfl _ _ gb102 28 #[.bool false, .string (⟨#[]⟩ : ByteArray), .int .i64 0] (0, 0) _ rfl (by (with_reducible repeat (first | refine blk_drewN ?_ _ | refine blk_drew ?_ | refine blk_alloc ?_ _)); refine blk_put (cs := #[.bool false, .string (⟨#[]⟩ : ByteArray), .int .i64 x103002_38]) ?_ 2 _ rfl; (with_reducible repeat (first | refine blk_drewN ?_ _ | refine blk_drew ?_ | refine blk_alloc ?_ _)); refine blk_put (cs := #[.bool false, .string x103001_38, .int .i64 x103002_38]) ?_ 1 _ rfl; (with_reducible repeat (first | refine blk_drewN ?_ _ | refine blk_drew ?_ | refine blk_alloc ?_ _)); refine blk_put (cs := #[.bool x103000_38, .string x103001_38, .int .i64 x103002_38]) ?_ 0 _ rfl; (with_reducible repeat (first | refine blk_drewN ?_ _ | refine blk_drew ?_ | refine blk_alloc ?_ _)); exact BK102.out) Tryz.underlying28 rfl (by kernel_rfl)) rfl ?_
                        exact ⟨by first | rfl | (simp [errW_none, errW_some] <;> rfl) | (simp [*, errW_none, errW_some] <;> rfl), by repeat (first | (with_reducible first | exact HB.out | apply below_alloc | apply pw_below_drewN | apply below_drew1 | refine below_set ?_ GE102.out) | exact HB.out)⟩
                       ·
                        rw [if_neg c76] at H
                        have c76b0 : decide (6 < (x9_69.size : Int)) = false := decide_eq_false c76
                        have c76b1 : decide (6 < x9_69.size) = false := decide_eq_false (by omega)
                        clear c76
                        have H' := Aside0.mk H
                        clear H
                        go_wp2
                        go_loopg [12, 13] kj69 (fun kq v12 v13 w' => ∃ (x12_9 : Int) (x13_9 : Int), v12 = .int .i64 x12_9 ∧ v13 = .int .i64 x13_9 ∧ Aside0 (emendref2_Split.l1 kq a0 (a0.extract (x4_5 : Int).toNat (t103 : Int).toNat) x7_23 x9_69 x10_38 x12_9 x13_9 = some (r1, r2, r3, r4)) ∧ Aside0 (kq ≤ kj69) ∧ Aside0 (w'.heap[gb102]? = some (.cells #[.bool x103000_38, .string x103001_38, .int .i64 x103002_38] 28 (0, 0))) ∧ Aside0 (Below w.heap.size w w'))
                        case atStart => exact ⟨(0), (0), (by first | rfl | (simp; done) | (simp [*]; done) | (congr 1; unfold wrap64; omega)), (by first | rfl | (simp; done) | (simp [*]; done) | (congr 1; unfold wrap64; omega)), H', ⟨Nat.le_refl _⟩, ⟨by (with_reducible repeat (first | refine blk_drewN ?_ _ | refine blk_drew ?_ | refine blk_alloc ?_ _)); exact BK102.out⟩, ⟨by repeat (first | (with_reducible first | exact HB.out | apply below_alloc | apply pw_below_drewN | apply below_drew1 | refine below_set ?_ GE102.out) | exact HB.out)⟩⟩
                        case round =>
                         clear H'
                         try clear c1
                         try clear p1
                         try clear q1
                         try clear hx1
                         try clear c2
                         try clear p2
                         try clear q2
                         try clear hx2
                         try clear c3
                         try clear p3
                         try clear q3
                         try clear hx3
                         try clear c4
                         try clear c4b0
                         try clear c4b1
                         try clear p4
                         try clear q4
                         try clear hx4
                         try clear c5
                         try clear p5
                         try clear q5
                         try clear hx5
                         try clear qi5
                         try clear c6
                         try clear p6
                         try clear c7
                         try clear p7
                         try clear q7
                         try clear hx7
                         try clear qi7
                         try clear c9
                         try clear c10
                         try clear c10b0
                         try clear c10b1
                         try clear c11
                         try clear c11b0
                         try clear c12
                         try clear c12b0
                         try clear p13
                         try clear q13
                         try clear hx13
                         try clear c14
                         try clear c14b0
                         try clear c14b1
                         try clear c15
                         try clear c17
                         try clear c17b0
                         try clear c17b1
                         try clear c18
                         try clear c18b0
                         try clear c18b1
                         try clear c19
                         try clear c19b0
                         try clear c19b1
                         try clear c21
                         try clear c21b0
                         try clear c22
                         try clear c22b0
                         try clear c23
                         try clear p23
                         try clear q23
                         try clear hx23
                         try clear c25
                         try clear c27
                         try clear c27b0
                         try clear c27b1
                         try clear c30
                         try clear c30b0
                         try clear c30b1
                         try clear c31
                         try clear c31b0
                         try clear c31b1
                         try clear c32
                         try clear c32b0
                         try clear c32b1
                         try clear c34
                         try clear c34b0
                         try clear c35
                         try clear c35b0
                         try clear p36
                         try clear q36
                         try clear hx36
                         try clear c37
                         try clear c37b0
                         try clear c37b1
                         try clear p38
                         try clear q38
                         try clear hx38
                         try clear c40
                         try clear c42
                         try clear c42b0
                         try clear c44
                         try clear c44b0
                         try clear p45
                         try clear q45
                         try clear hx45
                         try clear c46
                         try clear c46b0
                         try clear c46b1
                         try clear p47
                         try clear q47
                         try clear hx47
                         try clear c48
                         try clear c50
                         try clear c50b0
                         try clear c51
                         try clear c51b0
                         try clear p52
                         try clear q52
                         try clear hx52
                         try clear c54
                         try clear c54b0
                         try clear c54b1
                         try clear c57
                         try clear c57b0
                         try clear c57b1
                         try clear c58
                         try clear c58b0
                         try clear c58b1
                         try clear c59
                         try clear c59b0
                         try clear c59b1
                         try clear c61
                         try clear c61b0
                         try clear c61b1
                         try clear c64
                         try clear c64b0
                         try clear c64b1
                         try clear p64
                         try clear c65
                         try clear c65b0
                         try clear c65b1
                         try clear c66
                         try clear c66b0
                         try clear c66b1
                         try clear c67
                         try clear c67b0
                         try clear c67b1
                         try clear c68
                         try clear c68b0
                         try clear c68b1
                         try clear c71
                         try clear c71b0
                         try clear c71b1
                         try clear c72
                         try clear c72b0
                         try clear c72b1
                         try clear p73
                         try clear q73
                         try clear hx73
                         try clear qi73
                         try clear c74
                         try clear c74b0
                         try clear c74b1
                         try clear c75
                         try clear c75b0
                         try clear c75b1
                         try clear c76
                         try clear c76b0
                         try clear c76b1
                         try clear hcz16_0
                         try clear hcz16_1
                         try clear hcz16_2
                         try clear hcz28_0
                         try clear hcz28_1
                         try clear hcz28_2
                         try clear hcz55_0
                         try clear hcz55_1
                         try clear hcz55_2
                         try clear hcz62_0
                         try clear hcz62_1
                         try clear hcz62_2
                         try clear hcz69_0
                         try clear hcz69_1
                         try clear hcz69_2
                         try clear hcz77_0
                         try clear hcz77_1
                         try clear hcz77_2
                         try clear hfz16_0
                         try clear hfz16_1
                         try clear hfz16_2
                         try clear hfz28_0
                         try clear hfz28_1
                         try clear hfz28_2
                         try clear hfz55_0
                         try clear hfz55_1
                         try clear hfz55_2
                         try clear hfz62_0
                         try clear hfz62_1
                         try clear hfz62_2
                         try clear hfz69_0
                         try clear hfz69_1
                         try clear hfz69_2
                         try clear hfz77_0
                         try clear hfz77_1
                         try clear hfz77_2
                         try clear p1
                         try clear p13
                         try clear p2
                         try clear p23
                         try clear p3
                         try clear p36
                         try clear p38
                         try clear p4
                         try clear p45
                         try clear p47
                         try clear p5
                         try clear p52
                         try clear p6
                         try clear p64
                         try clear p7
                         try clear p73
                         try clear q1
                         try clear q13
                         try clear q2
                         try clear q23
                         try clear q3
                         try clear q36
                         try clear q38
                         try clear q4
                         try clear q45
                         try clear q47
                         try clear q5
                         try clear q52
                         try clear q7
                         try clear q73
                         obtain ⟨x12_9, x13_9, rfl, rfl, HA, HK9, BK102, HB⟩ := hrel
                         cases gk with
                         | zero => exact absurd HA.out (by simp [emendref2_Split.l1])
                         | succ k9 =>
                          have H := HA.out
                          clear HA
                          simp only [emendref2_Split.l1] at H
                          by_cases c78 : x13_9 < (x9_69.size : Int)
                          ·
                           rw [if_pos c78] at H
                           have c78b0 : decide (x13_9 < (x9_69.size : Int)) = true := decide_eq_true c78
                           clear c78
                           by_cases c79 : 0 ≤ x13_9
                           ·
                            rw [if_pos c79] at H
                            have c79b0 : decide (0 ≤ x13_9) = true := decide_eq_true c79
                            clear c79
                            have H' := Aside0.mk H
                            clear H
                            have p80 : 0 ≤ (x13_9 : Int) := of_decide_eq_true (by first | (with_reducible assumption) | assumption)
                            have q80 : x13_9 < (x9_69.size : Int) := of_decide_eq_true (by first | (with_reducible assumption) | assumption)
                            have hx80 := bt_at x9_69 x13_9
                            replace p80 := eq_true p80
                            replace q80 := eq_true q80
                            go_wp2
                            go_roundg k9
                            case measure => have := HJ1.out; have := HJ5.out; have := HJ8.out; have := HJ19.out; have := HJ23.out; have := HJ32.out; have := HJ38.out; have := HJ69.out; have := HK9.out; omega
                            case rel => exact ⟨(wrap64 ((wrap64 (x12_9 * 10)) + (((bt x9_69 x13_9) - 48) % 256))), (wrap64 (x13_9 + 1)), (by first | rfl | (simp; done) | (simp [*]; done) | (congr 1; unfold wrap64; omega)), (by first | rfl | (simp; done) | (simp [*]; done) | (congr 1; unfold wrap64; omega)), H', ⟨by have := HJ1.out; have := HJ5.out; have := HJ8.out; have := HJ19.out; have := HJ23.out; have := HJ32.out; have := HJ38.out; have := HJ69.out; have := HK9.out; omega⟩, ⟨by (with_reducible repeat (first | refine blk_drewN ?_ _ | refine blk_drew ?_ | refine blk_alloc ?_ _)); exact BK102.out⟩, ⟨by repeat (first | (with_reducible first | exact HB.out | apply below_alloc | apply pw_below_drewN | apply below_drew1 | refine below_set ?_ GE102.out) | exact HB.out)⟩⟩
                           ·
                            rw [if_neg c79] at H
                            exact absurd H (by simp)
                          ·
                           rw [if_neg c78] at H
                           have c78b0 : decide (x13_9 < (x9_69.size : Int)) = false := decide_eq_false c78
                           clear c78
                           have HC81 := Aside0.mk H
                           clear H
                           go_upto_if 164 with (fail)
                           go_cut [12] (fun v12 wc => ∃ (kq : Nat) (x12_80 : Int), v12 = .int .i64 x12_80 ∧ Aside0 (emendref2_Split.j11 kq a0 (a0.extract (x4_5 : Int).toNat (t103 : Int).toNat) x7_23 x12_80 = some (r1, r2, r3, r4)) ∧ Aside0 (kq ≤ k9) ∧ Aside0 (wc.heap[gb102]? = some (.cells #[.bool x103000_38, .string x103001_38, .int .i64 x103002_38] 28 (0, 0))) ∧ Aside0 (Below w.heap.size w wc))
                           case first =>
                            have H := HC81.out
                            clear HC81
                            by_cases c82 : x10_38 = true
                            ·
                             subst c82
                             have H1 : (emendref2_Split.j11 k9 a0 (a0.extract (x4_5 : Int).toNat (t103 : Int).toNat) x7_23 (wrap64 (-x12_9))) = some (r1, r2, r3, r4) := by rw [if_pos rfl] at H; exact H
                             clear H
                             have H := H1
                             clear H1
                             have H' := Aside0.mk H
                             clear H
                             go_wp2
                             go_meet
                             case rel => exact ⟨_, (wrap64 (-x12_9)), (by first | rfl | (simp; done) | (simp [*]; done) | (congr 1; unfold wrap64; omega)), H', ⟨by have := HJ1.out; have := HJ5.out; have := HJ8.out; have := HJ19.out; have := HJ23.out; have := HJ32.out; have := HJ38.out; have := HJ69.out; have := HK9.out; first | omega | exact Nat.le_refl _⟩, ⟨by (with_reducible repeat (first | refine blk_drewN ?_ _ | refine blk_drew ?_ | refine blk_alloc ?_ _)); exact BK102.out⟩, ⟨by repeat (first | (with_reducible first | exact HB.out | apply below_alloc | apply pw_below_drewN | apply below_drew1 | refine below_set ?_ GE102.out) | exact HB.out)⟩⟩
                            ·
                             replace c82 := Bool.eq_false_iff.mpr c82
                             subst c82
                             have H1 : (emendref2_Split.j11 k9 a0 (a0.extract (x4_5 : Int).toNat (t103 : Int).toNat) x7_23 x12_9) = some (r1, r2, r3, r4) := by rw [if_neg (show ¬ (false = true) by decide)] at H; exact H
                             clear H
                             have H := H1
                             clear H1
                             have H' := Aside0.mk H
                             clear H
                             go_wp2
                             go_meet
                             case rel => exact ⟨_, (x12_9), (by first | rfl | (simp; done) | (simp [*]; done) | (congr 1; unfold wrap64; omega)), H', ⟨by have := HJ1.out; have := HJ5.out; have := HJ8.out; have := HJ19.out; have := HJ23.out; have := HJ32.out; have := HJ38.out; have := HJ69.out; have := HK9.out; first | omega | exact Nat.le_refl _⟩, ⟨by (with_reducible repeat (first | refine blk_drewN ?_ _ | refine blk_drew ?_ | refine blk_alloc ?_ _)); exact BK102.out⟩, ⟨by repeat (first | (with_reducible first | exact HB.out | apply below_alloc | apply pw_below_drewN | apply below_drew1 | refine below_set ?_ GE102.out) | exact HB.out)⟩⟩
                           case rest => as_aux_lemma =>
                            clear HC81
                            try clear c1
                            try clear p1
                            try clear q1
                            try clear hx1
                            try clear c2
                            try clear p2
                            try clear q2
                            try clear hx2
                            try clear c3
                            try clear p3
                            try clear q3
                            try clear hx3
                            try clear c4
                            try clear c4b0
                            try clear c4b1
                            try clear p4
                            try clear q4
                            try clear hx4
                            try clear c5
                            try clear p5
                            try clear q5
                            try clear hx5
                            try clear qi5
                            try clear c6
                            try clear p6
                            try clear c7
                            try clear p7
                            try clear q7
                            try clear hx7
                            try clear qi7
                            try clear c8
                            try clear p8
                            try clear q8
                            try clear hx8
                            try clear c9
                            try clear c10
                            try clear c10b0
                            try clear c10b1
                            try clear c11
                            try clear c11b0
                            try clear c12
                            try clear c12b0
                            try clear p13
                            try clear q13
                            try clear hx13
                            try clear c14
                            try clear c14b0
                            try clear c14b1
                            try clear c15
                            try clear c17
                            try clear c17b0
                            try clear c17b1
                            try clear c18
                            try clear c18b0
                            try clear c18b1
                            try clear c19
                            try clear c19b0
                            try clear c19b1
                            try clear c21
                            try clear c21b0
                            try clear c22
                            try clear c22b0
                            try clear c23
                            try clear p23
                            try clear q23
                            try clear hx23
                            try clear c25
                            try clear c27
                            try clear c27b0
                            try clear c27b1
                            try clear c30
                            try clear c30b0
                            try clear c30b1
                            try clear c31
                            try clear c31b0
                            try clear c31b1
                            try clear c32
                            try clear c32b0
                            try clear c32b1
                            try clear c34
                            try clear c34b0
                            try clear c35
                            try clear c35b0
                            try clear p36
                            try clear q36
                            try clear hx36
                            try clear c37
                            try clear c37b0
                            try clear c37b1
                            try clear p38
                            try clear q38
                            try clear hx38
                            try clear c40
                            try clear c42
                            try clear c42b0
                            try clear c44
                            try clear c44b0
                            try clear p45
                            try clear q45
                            try clear hx45
                            try clear c46
                            try clear c46b0
                            try clear c46b1
                            try clear p47
                            try clear q47
                            try clear hx47
                            try clear c48
                            try clear c50
                            try clear c50b0
                            try clear c51
                            try clear c51b0
                            try clear p52
                            try clear q52
                            try clear hx52
                            try clear c54
                            try clear c54b0
                            try clear c54b1
                            try clear c57
                            try clear c57b0
                            try clear c57b1
                            try clear c58
                            try clear c58b0
                            try clear c58b1
                            try clear c59
                            try clear c59b0
                            try clear c59b1
                            try clear c61
                            try clear c61b0
                            try clear c61b1
                            try clear c64
                            try clear c64b0
                            try clear c64b1
                            try clear p64
                            try clear c65
                            try clear c65b0
                            try clear c65b1
                            try clear c66
                            try clear c66b0
                            try clear c66b1
                            try clear c67
                            try clear c67b0
                            try clear c67b1
                            try clear c68
                            try clear c68b0
                            try clear c68b1
                            try clear c71
                            try clear c71b0
                            try clear c71b1
                            try clear c72
                            try clear c72b0
                            try clear c72b1
                            try clear p73
                            try clear q73
                            try clear hx73
                            try clear qi73
                            try clear c74
                            try clear c74b0
                            try clear c74b1
                            try clear c75
                            try clear c75b0
                            try clear c75b1
                            try clear c76
                            try clear c76b0
                            try clear c76b1
                            try clear c78
                            try clear c78b0
                            try clear c79
                            try clear c79b0
                            try clear p80
                            try clear q80
                            try clear hx80
                            try clear c82
                            try clear hcz16_0
                            try clear hcz16_1
                            try clear hcz16_2
                            try clear hcz28_0
                            try clear hcz28_1
                            try clear hcz28_2
                            try clear hcz55_0
                            try clear hcz55_1
                            try clear hcz55_2
                            try clear hcz62_0
                            try clear hcz62_1
                            try clear hcz62_2
                            try clear hcz69_0
                            try clear hcz69_1
                            try clear hcz69_2
                            try clear hcz77_0
                            try clear hcz77_1
                            try clear hcz77_2
                            try clear hfz16_0
                            try clear hfz16_1
                            try clear hfz16_2
                            try clear hfz28_0
                            try clear hfz28_1
                            try clear hfz28_2
                            try clear hfz55_0
                            try clear hfz55_1
                            try clear hfz55_2
                            try clear hfz62_0
                            try clear hfz62_1
                            try clear hfz62_2
                            try clear hfz69_0
                            try clear hfz69_1
                            try clear hfz69_2
                            try clear hfz77_0
                            try clear hfz77_1
                            try clear hfz77_2
                            try clear p1
                            try clear p13
                            try clear p2
                            try clear p23
                            try clear p3
                            try clear p36
                            try clear p38
                            try clear p4
                            try clear p45
                            try clear p47
                            try clear p5
                            try clear p52
                            try clear p6
                            try clear p64
                            try clear p7
                            try clear p73
                            try clear p80
                            try clear q1
                            try clear q13
                            try clear q2
                            try clear q23
                            try clear q3
                            try clear q36
                            try clear q38
                            try clear q4
                            try clear q45
                            try clear q47
                            try clear q5
                            try clear q52
                            try clear q7
                            try clear q73
                            try clear q80
                            obtain ⟨kq, x12_80, rfl, HA, HJ80, BK102, HB⟩ := hcut
                            cases kq with
                            | zero => exact absurd HA.out (by simp [emendref2_Split.j11])
                            | succ kj80 =>
                             have H := HA.out
                             clear HA
                             simp only [emendref2_Split.j11] at H
                             by_cases c83 : (a0.extract (x4_5 : Int).toNat (t103 : Int).toNat).size + x7_23.size ≤ 9223372036854775807
                             ·
                              rw [if_pos c83] at H
                              have c83b0 := eq_true c83
                              have c83b1 : decide ((a0.extract (x4_5 : Int).toNat (t103 : Int).toNat).size + x7_23.size ≤ 9223372036854775807) = true := decide_eq_true c83
                              try have c83b2 : (9223372036854775807 < (a0.extract (x4_5 : Int).toNat (t103 : Int).toNat).size + x7_23.size) = False := eq_false (Nat.not_lt.2 c83)
                              have HC84 := Aside0.mk H
                              clear H
                              go_upto_block 4 with (fail)
                              go_cut [12, 14] (fun v12 v14 wc => ∃ (kq : Nat) (x12_83 : Int) (x14_83 : ByteArray), v12 = .int .i64 x12_83 ∧ v14 = .string x14_83 ∧ Aside0 (emendref2_Split.j13 kq a0 x12_83 x14_83 = some (r1, r2, r3, r4)) ∧ Aside0 (kq ≤ kj80) ∧ Aside0 (wc.heap[gb102]? = some (.cells #[.bool x103000_38, .string x103001_38, .int .i64 x103002_38] 28 (0, 0))) ∧ Aside0 (Below w.heap.size w wc))
                              case first =>
                               have H := HC84.out
                               clear HC84
                               have H' := Aside0.mk H
                               clear H
                               go_wp2
                               go_loopg [12, 14] kj80 (fun kq v12 v14 w' => ∃ (x12_11 : Int) (x14_11 : ByteArray), v12 = .int .i64 x12_11 ∧ v14 = .string x14_11 ∧ Aside0 (emendref2_Split.l2 kq a0 x12_11 x14_11 = some (r1, r2, r3, r4)) ∧ Aside0 (kq ≤ kj80) ∧ Aside0 (w'.heap[gb102]? = some (.cells #[.bool x103000_38, .string x103001_38, .int .i64 x103002_38] 28 (0, 0))) ∧ Aside0 (Below w.heap.size w w'))
                               case atStart => exact ⟨(wrap64 (x12_80 - (x7_23.size : Int))), ((a0.extract (x4_5 : Int).toNat (t103 : Int).toNat) ++ x7_23), (by first | rfl | (simp; done) | (simp [*]; done) | (congr 1; unfold wrap64; omega)), (by first | rfl | (simp; done) | (simp [*]; done) | (congr 1; unfold wrap64; omega)), H', ⟨Nat.le_refl _⟩, ⟨by (with_reducible repeat (first | refine blk_drewN ?_ _ | refine blk_drew ?_ | refine blk_alloc ?_ _)); exact BK102.out⟩, ⟨by repeat (first | (with_reducible first | exact HB.out | apply below_alloc | apply pw_below_drewN | apply below_drew1 | refine below_set ?_ GE102.out) | exact HB.out)⟩⟩
                               case round =>
                                clear H'
                                try clear c1
                                try clear p1
                                try clear q1
                                try clear hx1
                                try clear c2
                                try clear p2
                                try clear q2
                                try clear hx2
                                try clear c3
                                try clear p3
                                try clear q3
                                try clear hx3
                                try clear c4
                                try clear c4b0
                                try clear c4b1
                                try clear p4
                                try clear q4
                                try clear hx4
                                try clear c5
                                try clear p5
                                try clear q5
                                try clear hx5
                                try clear qi5
                                try clear c6
                                try clear p6
                                try clear c7
                                try clear p7
                                try clear q7
                                try clear hx7
                                try clear qi7
                                try clear c8
                                try clear p8
                                try clear q8
                                try clear hx8
                                try clear c9
                                try clear c10
                                try clear c10b0
                                try clear c10b1
                                try clear c11
                                try clear c11b0
                                try clear c12
                                try clear c12b0
                                try clear p13
                                try clear q13
                                try clear hx13
                                try clear c14
                                try clear c14b0
                                try clear c14b1
                                try clear c15
                                try clear c17
                                try clear c17b0
                                try clear c17b1
                                try clear c18
                                try clear c18b0
                                try clear c18b1
                                try clear c19
                                try clear c19b0
                                try clear c19b1
                                try clear c21
                                try clear c21b0
                                try clear c22
                                try clear c22b0
                                try clear c23
                                try clear p23
                                try clear q23
                                try clear hx23
                                try clear c25
                                try clear c27
                                try clear c27b0
                                try clear c27b1
                                try clear c30
                                try clear c30b0
                                try clear c30b1
                                try clear c31
                                try clear c31b0
                                try clear c31b1
                                try clear c32
                                try clear c32b0
                                try clear c32b1
                                try clear c34
                                try clear c34b0
                                try clear c35
                                try clear c35b0
                                try clear p36
                                try clear q36
                                try clear hx36
                                try clear c37
                                try clear c37b0
                                try clear c37b1
                                try clear p38
                                try clear q38
                                try clear hx38
                                try clear c40
                                try clear c42
                                try clear c42b0
                                try clear c44
                                try clear c44b0
                                try clear p45
                                try clear q45
                                try clear hx45
                                try clear c46
                                try clear c46b0
                                try clear c46b1
                                try clear p47
                                try clear q47
                                try clear hx47
                                try clear c48
                                try clear c50
                                try clear c50b0
                                try clear c51
                                try clear c51b0
                                try clear p52
                                try clear q52
                                try clear hx52
                                try clear c54
                                try clear c54b0
                                try clear c54b1
                                try clear c57
                                try clear c57b0
                                try clear c57b1
                                try clear c58
                                try clear c58b0
                                try clear c58b1
                                try clear c59
                                try clear c59b0
                                try clear c59b1
                                try clear c61
                                try clear c61b0
                                try clear c61b1
                                try clear c64
                                try clear c64b0
                                try clear c64b1
                                try clear p64
                                try clear c65
                                try clear c65b0
                                try clear c65b1
                                try clear c66
                                try clear c66b0
                                try clear c66b1
                                try clear c67
                                try clear c67b0
                                try clear c67b1
                                try clear c68
                                try clear c68b0
                                try clear c68b1
                                try clear c71
                                try clear c71b0
                                try clear c71b1
                                try clear c72
                                try clear c72b0
                                try clear c72b1
                                try clear p73
                                try clear q73
                                try clear hx73
                                try clear qi73
                                try clear c74
                                try clear c74b0
                                try clear c74b1
                                try clear c75
                                try clear c75b0
                                try clear c75b1
                                try clear c76
                                try clear c76b0
                                try clear c76b1
                                try clear c78
                                try clear c78b0
                                try clear c79
                                try clear c79b0
                                try clear p80
                                try clear q80
                                try clear hx80
                                try clear c82
                                try clear c83
                                try clear c83b0
                                try clear c83b1
                                try clear c83b2
                                try clear hcz16_0
                                try clear hcz16_1
                                try clear hcz16_2
                                try clear hcz28_0
                                try clear hcz28_1
                                try clear hcz28_2
                                try clear hcz55_0
                                try clear hcz55_1
                                try clear hcz55_2
                                try clear hcz62_0
                                try clear hcz62_1
                                try clear hcz62_2
                                try clear hcz69_0
                                try clear hcz69_1
                                try clear hcz69_2
                                try clear hcz77_0
                                try clear hcz77_1
                                try clear hcz77_2
                                try clear hfz16_0
                                try clear hfz16_1
                                try clear hfz16_2
                                try clear hfz28_0
                                try clear hfz28_1
                                try clear hfz28_2
                                try clear hfz55_0
                                try clear hfz55_1
                                try clear hfz55_2
                                try clear hfz62_0
                                try clear hfz62_1
                                try clear hfz62_2
                                try clear hfz69_0
                                try clear hfz69_1
                                try clear hfz69_2
                                try clear hfz77_0
                                try clear hfz77_1
                                try clear hfz77_2
                                try clear p1
                                try clear p13
                                try clear p2
                                try clear p23
                                try clear p3
                                try clear p36
                                try clear p38
                                try clear p4
                                try clear p45
                                try clear p47
                                try clear p5
                                try clear p52
                                try clear p6
                                try clear p64
                                try clear p7
                                try clear p73
                                try clear p8
                                try clear p80
                                try clear q1
                                try clear q13
                                try clear q2
                                try clear q23
                                try clear q3
                                try clear q36
                                try clear q38
                                try clear q4
                                try clear q45
                                try clear q47
                                try clear q5
                                try clear q52
                                try clear q7
                                try clear q73
                                try clear q8
                                try clear q80
                                obtain ⟨x12_11, x14_11, rfl, rfl, HA, HK11, BK102, HB⟩ := hrel
                                cases gk with
                                | zero => exact absurd HA.out (by simp [emendref2_Split.l2])
                                | succ k11 =>
                                 have H := HA.out
                                 clear HA
                                 simp only [emendref2_Split.l2] at H
                                 by_cases c85 : (x14_11.size : Int) > 0
                                 ·
                                  rw [if_pos c85] at H
                                  have c85b0 : decide (0 < (x14_11.size : Int)) = true := decide_eq_true c85
                                  have c85b1 : decide (0 < x14_11.size) = true := decide_eq_true (by omega)
                                  clear c85
                                  (first | rw [c85b0] | (simp only [i64_w, i32_w]; rw [c85b0]) | skip)
                                  obtain ⟨ji86, hji86⟩ : ∃ j_ : Int, (wrap64 ((x14_11.size : Int) - 1)) = j_ := ⟨_, rfl⟩
                                  replace H : (if 0 ≤ (ji86) then (if (ji86) < (x14_11.size : Int) then (if (bt x14_11 (ji86)) = 48 then (if (ji86) ≤ (x14_11.size : Int) then (emendref2_Split.l2 k11 a0 (wrap64 (x12_11 + 1)) (x14_11.extract 0 ((ji86) : Int).toNat)) else (none)) else (emendref2_Split.j13 k11 a0 x12_11 x14_11)) else (none)) else (none)) = some (r1, r2, r3, r4) := by first | (rw [hji86] at H; exact H) | (simp only [hji86] at H ⊢; exact H)
                                  have hji86w : (IntKind.i64.wrap ((x14_11.size : Int) - 1)) = ji86 := (i64_w _).trans hji86
                                  by_cases c87 : 0 ≤ (ji86)
                                  ·
                                   rw [if_pos c87] at H
                                   have c87b0 : decide (0 ≤ (ji86)) = true := decide_eq_true c87
                                   clear c87
                                   by_cases c88 : (ji86) < (x14_11.size : Int)
                                   ·
                                    rw [if_pos c88] at H
                                    have c88b0 : decide ((ji86) < (x14_11.size : Int)) = true := decide_eq_true c88
                                    clear c88
                                    by_cases c90 : (bt x14_11 (ji86)) = 48
                                    ·
                                     rw [if_pos c90] at H
                                     have c90b0 : ((bt x14_11 (ji86)) == 48) = true := beq_iff_eq.mpr c90
                                     have c90b1 : ((bt x14_11 (ji86)) != 48) = false := bne_eq_false_iff_eq.mpr c90
                                     clear c90
                                     have c91b0 := eq_true (of_decide_eq_true (by first | (with_reducible assumption) | assumption) : 0 ≤ (ji86))
                                     by_cases c92 : (ji86) ≤ (x14_11.size : Int)
                                     ·
                                      rw [if_pos c92] at H
                                      have c92b0 := eq_true c92
                                      have c92b1 : decide ((ji86) ≤ (x14_11.size : Int)) = true := decide_eq_true c92
                                      clear c92
                                      have H' := Aside0.mk H
                                      clear H
                                      have p89 : 0 ≤ ((ji86) : Int) := of_decide_eq_true (by first | (with_reducible assumption) | assumption)
                                      have q89 : (ji86) < (x14_11.size : Int) := of_decide_eq_true (by first | (with_reducible assumption) | assumption)
                                      have hx89 := bt_at x14_11 (ji86)
                                      replace p89 := eq_true p89
                                      replace q89 := eq_true q89
                                      go_wp2
                                      go_roundg k11
                                      case measure => have := HJ1.out; have := HJ5.out; have := HJ8.out; have := HJ19.out; have := HJ23.out; have := HJ32.out; have := HJ38.out; have := HJ69.out; have := HK9.out; have := HJ80.out; have := HK11.out; omega
                                      case rel => exact ⟨(wrap64 (x12_11 + 1)), (x14_11.extract 0 ((ji86) : Int).toNat), (by first | rfl | (simp; done) | (simp [*]; done) | (congr 1; unfold wrap64; omega)), (by first | rfl | (simp; done) | (simp only [← hji86] <;> (first | rfl | simp)) | (simp [*]; done)), (by first | (with_reducible exact H') | exact H' | (rw [hji86]; exact H') | (simp only [hji86]; exact H')), ⟨by have := HJ1.out; have := HJ5.out; have := HJ8.out; have := HJ19.out; have := HJ23.out; have := HJ32.out; have := HJ38.out; have := HJ69.out; have := HK9.out; have := HJ80.out; have := HK11.out; omega⟩, ⟨by (with_reducible repeat (first | refine blk_drewN ?_ _ | refine blk_drew ?_ | refine blk_alloc ?_ _)); exact BK102.out⟩, ⟨by repeat (first | (with_reducible first | exact HB.out | apply below_alloc | apply pw_below_drewN | apply below_drew1 | refine below_set ?_ GE102.out) | exact HB.out)⟩⟩
                                     ·
                                      rw [if_neg c92] at H
                                      exact absurd H (by simp)
                                    ·
                                     rw [if_neg c90] at H
                                     have c90b0 : ((bt x14_11 (ji86)) == 48) = false := beq_eq_false_iff_ne.mpr c90
                                     have c90b1 : ((bt x14_11 (ji86)) != 48) = true := bne_iff_ne.mpr c90
                                     have H' := Aside0.mk H
                                     clear H
                                     have p89 : 0 ≤ ((ji86) : Int) := of_decide_eq_true (by first | (with_reducible assumption) | assumption)
                                     have q89 : (ji86) < (x14_11.size : Int) := of_decide_eq_true (by first | (with_reducible assumption) | assumption)
                                     have hx89 := bt_at x14_11 (ji86)
                                     replace p89 := eq_true p89
                                     replace q89 := eq_true q89
                                     go_wp2
                                     go_meet
                                     case rel => exact ⟨_, (x12_11), (x14_11), (by first | rfl | (simp; done) | (simp [*]; done) | (congr 1; unfold wrap64; omega)), (by first | rfl | (simp; done) | (simp [*]; done) | (congr 1; unfold wrap64; omega)), (by first | (with_reducible exact H') | exact H' | (rw [hji86]; exact H') | (simp only [hji86]; exact H')), ⟨by have := HJ1.out; have := HJ5.out; have := HJ8.out; have := HJ19.out; have := HJ23.out; have := HJ32.out; have := HJ38.out; have := HJ69.out; have := HK9.out; have := HJ80.out; have := HK11.out; first | omega | exact Nat.le_refl _⟩, ⟨by (with_reducible repeat (first | refine blk_drewN ?_ _ | refine blk_drew ?_ | refine blk_alloc ?_ _)); exact BK102.out⟩, ⟨by repeat (first | (with_reducible first | exact HB.out | apply below_alloc | apply pw_below_drewN | apply below_drew1 | refine below_set ?_ GE102.out) | exact HB.out)⟩⟩
                                   ·
                                    rw [if_neg c88] at H
                                    exact absurd H (by simp)
                                  ·
                                   rw [if_neg c87] at H
                                   exact absurd H (by simp)
                                 ·
                                  rw [if_neg c85] at H
                                  have c85b0 : decide (0 < (x14_11.size : Int)) = false := decide_eq_false c85
                                  have c85b1 : decide (0 < x14_11.size) = false := decide_eq_false (by omega)
                                  clear c85
                                  (first | rw [c85b0] | (simp only [i64_w, i32_w]; rw [c85b0]) | skip)
                                  have H' := Aside0.mk H
                                  clear H
                                  go_wp2
                                  go_meet
                                  case rel => exact ⟨_, (x12_11), (x14_11), (by first | rfl | (simp; done) | (simp [*]; done) | (congr 1; unfold wrap64; omega)), (by first | rfl | (simp; done) | (simp [*]; done) | (congr 1; unfold wrap64; omega)), (by first | (with_reducible exact H') | exact H' | (rw [hji86]; exact H') | (simp only [hji86]; exact H')), ⟨by have := HJ1.out; have := HJ5.out; have := HJ8.out; have := HJ19.out; have := HJ23.out; have := HJ32.out; have := HJ38.out; have := HJ69.out; have := HK9.out; have := HJ80.out; have := HK11.out; first | omega | exact Nat.le_refl _⟩, ⟨by (with_reducible repeat (first | refine blk_drewN ?_ _ | refine blk_drew ?_ | refine blk_alloc ?_ _)); exact BK102.out⟩, ⟨by repeat (first | (with_reducible first | exact HB.out | apply below_alloc | apply pw_below_drewN | apply below_drew1 | refine below_set ?_ GE102.out) | exact HB.out)⟩⟩
                              case rest => as_aux_lemma =>
                               clear HC84
                               try clear c1
                               try clear p1
                               try clear q1
                               try clear hx1
                               try clear c2
                               try clear p2
                               try clear q2
                               try clear hx2
                               try clear c3
                               try clear p3
                               try clear q3
                               try clear hx3
                               try clear c4
                               try clear c4b0
                               try clear c4b1
                               try clear p4
                               try clear q4
                               try clear hx4
                               try clear c5
                               try clear p5
                               try clear q5
                               try clear hx5
                               try clear qi5
                               try clear c6
                               try clear p6
                               try clear c7
                               try clear p7
                               try clear q7
                               try clear hx7
                               try clear qi7
                               try clear c8
                               try clear p8
                               try clear q8
                               try clear hx8
                               try clear c9
                               try clear c10
                               try clear c10b0
                               try clear c10b1
                               try clear c11
                               try clear c11b0
                               try clear c12
                               try clear c12b0
                               try clear p13
                               try clear q13
                               try clear hx13
                               try clear c14
                               try clear c14b0
                               try clear c14b1
                               try clear c15
                               try clear c17
                               try clear c17b0
                               try clear c17b1
                               try clear c18
                               try clear c18b0
                               try clear c18b1
                               try clear c19
                               try clear c19b0
                               try clear c19b1
                               try clear c21
                               try clear c21b0
                               try clear c22
                               try clear c22b0
                               try clear c23
                               try clear p23
                               try clear q23
                               try clear hx23
                               try clear c25
                               try clear c27
                               try clear c27b0
                               try clear c27b1
                               try clear c30
                               try clear c30b0
                               try clear c30b1
                               try clear c31
                               try clear c31b0
                               try clear c31b1
                               try clear c32
                               try clear c32b0
                               try clear c32b1
                               try clear c34
                               try clear c34b0
                               try clear c35
                               try clear c35b0
                               try clear p36
                               try clear q36
                               try clear hx36
                               try clear c37
                               try clear c37b0
                               try clear c37b1
                               try clear p38
                               try clear q38
                               try clear hx38
                               try clear c40
                               try clear c42
                               try clear c42b0
                               try clear c44
                               try clear c44b0
                               try clear p45
                               try clear q45
                               try clear hx45
                               try clear c46
                               try clear c46b0
                               try clear c46b1
                               try clear p47
                               try clear q47
                               try clear hx47
                               try clear c48
                               try clear c50
                               try clear c50b0
                               try clear c51
                               try clear c51b0
                               try clear p52
                               try clear q52
                               try clear hx52
                               try clear c54
                               try clear c54b0
                               try clear c54b1
                               try clear c57
                               try clear c57b0
                               try clear c57b1
                               try clear c58
                               try clear c58b0
                               try clear c58b1
                               try clear c59
                               try clear c59b0
                               try clear c59b1
                               try clear c61
                               try clear c61b0
                               try clear c61b1
                               try clear c64
                               try clear c64b0
                               try clear c64b1
                               try clear p64
                               try clear c65
                               try clear c65b0
                               try clear c65b1
                               try clear c66
                               try clear c66b0
                               try clear c66b1
                               try clear c67
                               try clear c67b0
                               try clear c67b1
                               try clear c68
                               try clear c68b0
                               try clear c68b1
                               try clear c71
                               try clear c71b0
                               try clear c71b1
                               try clear c72
                               try clear c72b0
                               try clear c72b1
                               try clear p73
                               try clear q73
                               try clear hx73
                               try clear qi73
                               try clear c74
                               try clear c74b0
                               try clear c74b1
                               try clear c75
                               try clear c75b0
                               try clear c75b1
                               try clear c76
                               try clear c76b0
                               try clear c76b1
                               try clear c78
                               try clear c78b0
                               try clear c79
                               try clear c79b0
                               try clear p80
                               try clear q80
                               try clear hx80
                               try clear c82
                               try clear c83
                               try clear c83b0
                               try clear c83b1
                               try clear c83b2
                               try clear c85
                               try clear c85b0
                               try clear c85b1
                               try clear c87
                               try clear c87b0
                               try clear c88
                               try clear c88b0
                               try clear p89
                               try clear q89
                               try clear hx89
                               try clear c90
                               try clear c90b0
                               try clear c90b1
                               try clear c91
                               try clear c91b0
                               try clear c92
                               try clear c92b0
                               try clear c92b1
                               try clear hcz16_0
                               try clear hcz16_1
                               try clear hcz16_2
                               try clear hcz28_0
                               try clear hcz28_1
                               try clear hcz28_2
                               try clear hcz55_0
                               try clear hcz55_1
                               try clear hcz55_2
                               try clear hcz62_0
                               try clear hcz62_1
                               try clear hcz62_2
                               try clear hcz69_0
                               try clear hcz69_1
                               try clear hcz69_2
                               try clear hcz77_0
                               try clear hcz77_1
                               try clear hcz77_2
                               try clear hfz16_0
                               try clear hfz16_1
                               try clear hfz16_2
                               try clear hfz28_0
                               try clear hfz28_1
                               try clear hfz28_2
                               try clear hfz55_0
                               try clear hfz55_1
                               try clear hfz55_2
                               try clear hfz62_0
                               try clear hfz62_1
                               try clear hfz62_2
                               try clear hfz69_0
                               try clear hfz69_1
                               try clear hfz69_2
                               try clear hfz77_0
                               try clear hfz77_1
                               try clear hfz77_2
                               try clear p1
                               try clear p13
                               try clear p2
                               try clear p23
                               try clear p3
                               try clear p36
                               try clear p38
                               try clear p4
                               try clear p45
                               try clear p47
                               try clear p5
                               try clear p52
                               try clear p6
                               try clear p64
                               try clear p7
                               try clear p73
                               try clear p8
                               try clear p80
                               try clear p89
                               try clear q1
                               try clear q13
                               try clear q2
                               try clear q23
                               try clear q3
                               try clear q36
                               try clear q38
                               try clear q4
                               try clear q45
                               try clear q47
                               try clear q5
                               try clear q52
                               try clear q7
                               try clear q73
                               try clear q8
                               try clear q80
                               try clear q89
                               obtain ⟨kq, x12_83, x14_83, rfl, rfl, HA, HJ83, BK102, HB⟩ := hcut
                               cases kq with
                               | zero => exact absurd HA.out (by simp [emendref2_Split.j13])
                               | succ kj83 =>
                                have H := HA.out
                                clear HA
                                simp only [emendref2_Split.j13] at H
                                have H' := Aside0.mk H
                                clear H
                                go_wp2
                                go_loopg [14] kj83 (fun kq v14 w' => ∃ (x14_12 : ByteArray), v14 = .string x14_12 ∧ Aside0 (emendref2_Split.l3 kq a0 x12_83 x14_12 = some (r1, r2, r3, r4)) ∧ Aside0 (kq ≤ kj83) ∧ Aside0 (w'.heap[gb102]? = some (.cells #[.bool x103000_38, .string x103001_38, .int .i64 x103002_38] 28 (0, 0))) ∧ Aside0 (Below w.heap.size w w'))
                                case atStart => exact ⟨(x14_83), (by first | rfl | (simp; done) | (simp [*]; done) | (congr 1; unfold wrap64; omega)), H', ⟨Nat.le_refl _⟩, ⟨by (with_reducible repeat (first | refine blk_drewN ?_ _ | refine blk_drew ?_ | refine blk_alloc ?_ _)); exact BK102.out⟩, ⟨by repeat (first | (with_reducible first | exact HB.out | apply below_alloc | apply pw_below_drewN | apply below_drew1 | refine below_set ?_ GE102.out) | exact HB.out)⟩⟩
                                case round =>
                                 clear H'
                                 try clear c1
                                 try clear p1
                                 try clear q1
                                 try clear hx1
                                 try clear c2
                                 try clear p2
                                 try clear q2
                                 try clear hx2
                                 try clear c3
                                 try clear p3
                                 try clear q3
                                 try clear hx3
                                 try clear c4
                                 try clear c4b0
                                 try clear c4b1
                                 try clear p4
                                 try clear q4
                                 try clear hx4
                                 try clear c5
                                 try clear p5
                                 try clear q5
                                 try clear hx5
                                 try clear qi5
                                 try clear c6
                                 try clear p6
                                 try clear c7
                                 try clear p7
                                 try clear q7
                                 try clear hx7
                                 try clear qi7
                                 try clear c8
                                 try clear p8
                                 try clear q8
                                 try clear hx8
                                 try clear c9
                                 try clear c10
                                 try clear c10b0
                                 try clear c10b1
                                 try clear c11
                                 try clear c11b0
                                 try clear c12
                                 try clear c12b0
                                 try clear p13
                                 try clear q13
                                 try clear hx13
                                 try clear c14
                                 try clear c14b0
                                 try clear c14b1
                                 try clear c15
                                 try clear c17
                                 try clear c17b0
                                 try clear c17b1
                                 try clear c18
                                 try clear c18b0
                                 try clear c18b1
                                 try clear c19
                                 try clear c19b0
                                 try clear c19b1
                                 try clear c21
                                 try clear c21b0
                                 try clear c22
                                 try clear c22b0
                                 try clear c23
                                 try clear p23
                                 try clear q23
                                 try clear hx23
                                 try clear c25
                                 try clear c27
                                 try clear c27b0
                                 try clear c27b1
                                 try clear c30
                                 try clear c30b0
                                 try clear c30b1
                                 try clear c31
                                 try clear c31b0
                                 try clear c31b1
                                 try clear c32
                                 try clear c32b0
                                 try clear c32b1
                                 try clear c34
                                 try clear c34b0
                                 try clear c35
                                 try clear c35b0
                                 try clear p36
                                 try clear q36
                                 try clear hx36
                                 try clear c37
                                 try clear c37b0
                                 try clear c37b1
                                 try clear p38
                                 try clear q38
                                 try clear hx38
                                 try clear c40
                                 try clear c42
                                 try clear c42b0
                                 try clear c44
                                 try clear c44b0
                                 try clear p45
                                 try clear q45
                                 try clear hx45
                                 try clear c46
                                 try clear c46b0
                                 try clear c46b1
                                 try clear p47
                                 try clear q47
                                 try clear hx47
                                 try clear c48
                                 try clear c50
                                 try clear c50b0
                                 try clear c51
                                 try clear c51b0
                                 try clear p52
                                 try clear q52
                                 try clear hx52
                                 try clear c54
                                 try clear c54b0
                                 try clear c54b1
                                 try clear c57
                                 try clear c57b0
                                 try clear c57b1
                                 try clear c58
                                 try clear c58b0
                                 try clear c58b1
                                 try clear c59
                                 try clear c59b0
                                 try clear c59b1
                                 try clear c61
                                 try clear c61b0
                                 try clear c61b1
                                 try clear c64
                                 try clear c64b0
                                 try clear c64b1
                                 try clear p64
                                 try clear c65
                                 try clear c65b0
                                 try clear c65b1
                                 try clear c66
                                 try clear c66b0
                                 try clear c66b1
                                 try clear c67
                                 try clear c67b0
                                 try clear c67b1
                                 try clear c68
                                 try clear c68b0
                                 try clear c68b1
                                 try clear c71
                                 try clear c71b0
                                 try clear c71b1
                                 try clear c72
                                 try clear c72b0
                                 try clear c72b1
                                 try clear p73
                                 try clear q73
                                 try clear hx73
                                 try clear qi73
                                 try clear c74
                                 try clear c74b0
                                 try clear c74b1
                                 try clear c75
                                 try clear c75b0
                                 try clear c75b1
                                 try clear c76
                                 try clear c76b0
                                 try clear c76b1
                                 try clear c78
                                 try clear c78b0
                                 try clear c79
                                 try clear c79b0
                                 try clear p80
                                 try clear q80
                                 try clear hx80
                                 try clear c82
                                 try clear c83
                                 try clear c83b0
                                 try clear c83b1
                                 try clear c83b2
                                 try clear c85
                                 try clear c85b0
                                 try clear c85b1
                                 try clear c87
                                 try clear c87b0
                                 try clear c88
                                 try clear c88b0
                                 try clear p89
                                 try clear q89
                                 try clear hx89
                                 try clear c90
                                 try clear c90b0
                                 try clear c90b1
                                 try clear c91
                                 try clear c91b0
                                 try clear c92
                                 try clear c92b0
                                 try clear c92b1
                                 try clear hcz16_0
                                 try clear hcz16_1
                                 try clear hcz16_2
                                 try clear hcz28_0
                                 try clear hcz28_1
                                 try clear hcz28_2
                                 try clear hcz55_0
                                 try clear hcz55_1
                                 try clear hcz55_2
                                 try clear hcz62_0
                                 try clear hcz62_1
                                 try clear hcz62_2
                                 try clear hcz69_0
                                 try clear hcz69_1
                                 try clear hcz69_2
                                 try clear hcz77_0
                                 try clear hcz77_1
                                 try clear hcz77_2
                                 try clear hfz16_0
                                 try clear hfz16_1
                                 try clear hfz16_2
                                 try clear hfz28_0
                                 try clear hfz28_1
                                 try clear hfz28_2
                                 try clear hfz55_0
                                 try clear hfz55_1
                                 try clear hfz55_2
                                 try clear hfz62_0
                                 try clear hfz62_1
                                 try clear hfz62_2
                                 try clear hfz69_0
                                 try clear hfz69_1
                                 try clear hfz69_2
                                 try clear hfz77_0
                                 try clear hfz77_1
                                 try clear hfz77_2
                                 try clear p1
                                 try clear p13
                                 try clear p2
                                 try clear p23
                                 try clear p3
                                 try clear p36
                                 try clear p38
                                 try clear p4
                                 try clear p45
                                 try clear p47
                                 try clear p5
                                 try clear p52
                                 try clear p6
                                 try clear p64
                                 try clear p7
                                 try clear p73
                                 try clear p8
                                 try clear p80
                                 try clear p89
                                 try clear q1
                                 try clear q13
                                 try clear q2
                                 try clear q23
                                 try clear q3
                                 try clear q36
                                 try clear q38
                                 try clear q4
                                 try clear q45
                                 try clear q47
                                 try clear q5
                                 try clear q52
                                 try clear q7
                                 try clear q73
                                 try clear q8
                                 try clear q80
                                 try clear q89
                                 obtain ⟨x14_12, rfl, HA, HK12, BK102, HB⟩ := hrel
                                 cases gk with
                                 | zero => exact absurd HA.out (by simp [emendref2_Split.l3])
                                 | succ k12 =>
                                  have H := HA.out
                                  clear HA
                                  simp only [emendref2_Split.l3] at H
                                  by_cases c93 : (x14_12.size : Int) > 0
                                  ·
                                   rw [if_pos c93] at H
                                   have c93b0 : decide (0 < (x14_12.size : Int)) = true := decide_eq_true c93
                                   have c93b1 : decide (0 < x14_12.size) = true := decide_eq_true (by omega)
                                   clear c93
                                   by_cases c94 : 0 < (x14_12.size : Int)
                                   ·
                                    rw [if_pos c94] at H
                                    have c94b0 : decide (0 < (x14_12.size : Int)) = true := decide_eq_true c94
                                    have c94b1 : decide (0 < x14_12.size) = true := decide_eq_true (by omega)
                                    clear c94
                                    by_cases c96 : (bt x14_12 0) = 48
                                    ·
                                     rw [if_pos c96] at H
                                     have c96b0 : ((bt x14_12 0) == 48) = true := beq_iff_eq.mpr c96
                                     have c96b1 : ((bt x14_12 0) != 48) = false := bne_eq_false_iff_eq.mpr c96
                                     clear c96
                                     by_cases c97 : 1 ≤ (x14_12.size : Int)
                                     ·
                                      rw [if_pos c97] at H
                                      have c97b0 := eq_true c97
                                      have c97b1 : decide (1 ≤ (x14_12.size : Int)) = true := decide_eq_true c97
                                      clear c97
                                      have H' := Aside0.mk H
                                      clear H
                                      have p95 : 0 ≤ (0 : Int) := (by omega)
                                      have q95 : 0 < x14_12.size := (by have : (0 : Int) < (x14_12.size : Int) := of_decide_eq_true (by first | (with_reducible assumption) | assumption); omega)
                                      have hx95 : ∀ h : 0 < x14_12.size, ((x14_12[0]'h).toNat : Int) = bt x14_12 0 := bt_at x14_12 0
                                      clear p95
                                      have qi95 : (0 < (x14_12.size : Int)) = True := eq_true (of_decide_eq_true (by first | (with_reducible assumption) | assumption))
                                      replace q95 := eq_true q95
                                      go_wp2
                                      go_roundg k12
                                      case measure => have := HJ1.out; have := HJ5.out; have := HJ8.out; have := HJ19.out; have := HJ23.out; have := HJ32.out; have := HJ38.out; have := HJ69.out; have := HK9.out; have := HJ80.out; have := HJ83.out; have := HK12.out; omega
                                      case rel => exact ⟨(x14_12.extract 1 x14_12.size), (by first | rfl | (simp; done) | (simp [*]; done) | (congr 1; unfold wrap64; omega)), H', ⟨by have := HJ1.out; have := HJ5.out; have := HJ8.out; have := HJ19.out; have := HJ23.out; have := HJ32.out; have := HJ38.out; have := HJ69.out; have := HK9.out; have := HJ80.out; have := HJ83.out; have := HK12.out; omega⟩, ⟨by (with_reducible repeat (first | refine blk_drewN ?_ _ | refine blk_drew ?_ | refine blk_alloc ?_ _)); exact BK102.out⟩, ⟨by repeat (first | (with_reducible first | exact HB.out | apply below_alloc | apply pw_below_drewN | apply below_drew1 | refine below_set ?_ GE102.out) | exact HB.out)⟩⟩
                                     ·
                                      rw [if_neg c97] at H
                                      exact absurd H (by simp)
                                    ·
                                     rw [if_neg c96] at H
                                     have c96b0 : ((bt x14_12 0) == 48) = false := beq_eq_false_iff_ne.mpr c96
                                     have c96b1 : ((bt x14_12 0) != 48) = true := bne_iff_ne.mpr c96
                                     by_cases c98 : x14_12.toList = ([] : List UInt8)
                                     ·
                                      rw [if_pos c98] at H
                                      have c98b0 : (x14_12.toList == ([] : List UInt8)) = true := beq_iff_eq.mpr c98
                                      have c98b1 : (x14_12.toList != ([] : List UInt8)) = false := bne_eq_false_iff_eq.mpr c98
                                      clear c98
                                      simp only [Option.some.injEq, Prod.mk.injEq] at H
                                      obtain ⟨rfl, rfl, rfl, rfl⟩ := H
                                      have p95 : 0 ≤ (0 : Int) := (by omega)
                                      have q95 : 0 < x14_12.size := (by have : (0 : Int) < (x14_12.size : Int) := of_decide_eq_true (by first | (with_reducible assumption) | assumption); omega)
                                      have hx95 : ∀ h : 0 < x14_12.size, ((x14_12[0]'h).toNat : Int) = bt x14_12 0 := bt_at x14_12 0
                                      clear p95
                                      have qi95 : (0 < (x14_12.size : Int)) = True := eq_true (of_decide_eq_true (by first | (with_reducible assumption) | assumption))
                                      replace q95 := eq_true q95
                                      have hcz99_0 : wr.cell? ⟨gb102, 0, none⟩ = some (.bool x103000_38) := (blk_cell BK102.out 0).trans rfl
                                      have hcz99_1 : wr.cell? ⟨gb102, 1, none⟩ = some (.string x103001_38) := (blk_cell BK102.out 1).trans rfl
                                      have hcz99_2 : wr.cell? ⟨gb102, 2, none⟩ = some (.int .i64 x103002_38) := (blk_cell BK102.out 2).trans rfl
                                      have hfz99_0 := blk_frozen BK102.out 0
                                      have hfz99_1 := blk_frozen BK102.out 1
                                      have hfz99_2 := blk_frozen BK102.out 2
                                      go_wp2
                                      refine bodyPost_ret (results_ct rfl _ _ gb102 28 #[.bool false, .string (⟨#[]⟩ : ByteArray), .int .i64 0] (0, 0) _ rfl (by (with_reducible repeat (first | refine blk_drewN ?_ _ | refine blk_drew ?_ | refine blk_alloc ?_ _)); refine blk_put (cs := #[.bool false, .string (⟨#[]⟩ : ByteArray), .int .i64 x103002_38]) ?_ 2 _ rfl; (with_reducible repeat (first | refine blk_drewN ?_ _ | refine blk_drew ?_ | refine blk_alloc ?_ _)); refine blk_put (cs := #[.bool false, .string x103001_38, .int .i64 x103002_38]) ?_ 1 _ rfl; (with_reducible repeat (first | refine blk_drewN ?_ _ | refine blk_drew ?_ | refine blk_alloc ?_ _)); refine blk_put (cs := #[.bool x103000_38, .string x103001_38, .int .i64 x103002_38]) ?_ 0 _ rfl; (with_reducible repeat (first | refine blk_drewN ?_ _ | refine blk_drew ?_ | refine blk_alloc ?_ _)); exact BK102.out) Tryz.underlying28 rfl (by kernel_rfl)) rfl ?_
                                      exact ⟨by first | rfl | (simp [errW_none, errW_some] <;> rfl) | (simp [*, errW_none, errW_some] <;> rfl), by repeat (first | (with_reducible first | exact HB.out | apply below_alloc | apply pw_below_drewN | apply below_drew1 | refine below_set ?_ GE102.out) | exact HB.out)⟩
                                     ·
                                      rw [if_neg c98] at H
                                      have c98b0 : (x14_12.toList == ([] : List UInt8)) = false := beq_eq_false_iff_ne.mpr c98
                                      have c98b1 : (x14_12.toList != ([] : List UInt8)) = true := bne_iff_ne.mpr c98
                                      by_cases c100 : 0 < (a0.size : Int)
                                      ·
                                       rw [if_pos c100] at H
                                       have c100b0 : decide (0 < (a0.size : Int)) = true := decide_eq_true c100
                                       have c100b1 : decide (0 < a0.size) = true := decide_eq_true (by omega)
                                       clear c100
                                       simp only [Option.some.injEq, Prod.mk.injEq] at H
                                       obtain ⟨rfl, rfl, rfl, rfl⟩ := H
                                       have p95 : 0 ≤ (0 : Int) := (by omega)
                                       have q95 : 0 < x14_12.size := (by have : (0 : Int) < (x14_12.size : Int) := of_decide_eq_true (by first | (with_reducible assumption) | assumption); omega)
                                       have hx95 : ∀ h : 0 < x14_12.size, ((x14_12[0]'h).toNat : Int) = bt x14_12 0 := bt_at x14_12 0
                                       clear p95
                                       have qi95 : (0 < (x14_12.size : Int)) = True := eq_true (of_decide_eq_true (by first | (with_reducible assumption) | assumption))
                                       replace q95 := eq_true q95
                                       have p101 : 0 ≤ (0 : Int) := (by omega)
                                       have q101 : 0 < a0.size := (by have : (0 : Int) < (a0.size : Int) := of_decide_eq_true (by first | (with_reducible assumption) | assumption); omega)
                                       have hx101 : ∀ h : 0 < a0.size, ((a0[0]'h).toNat : Int) = bt a0 0 := bt_at a0 0
                                       clear p101
                                       have qi101 : (0 < (a0.size : Int)) = True := eq_true (of_decide_eq_true (by first | (with_reducible assumption) | assumption))
                                       replace q101 := eq_true q101
                                       have hcz102_0 : wr.cell? ⟨gb102, 0, none⟩ = some (.bool x103000_38) := (blk_cell BK102.out 0).trans rfl
                                       have hcz102_1 : wr.cell? ⟨gb102, 1, none⟩ = some (.string x103001_38) := (blk_cell BK102.out 1).trans rfl
                                       have hcz102_2 : wr.cell? ⟨gb102, 2, none⟩ = some (.int .i64 x103002_38) := (blk_cell BK102.out 2).trans rfl
                                       have hfz102_0 := blk_frozen BK102.out 0
                                       have hfz102_1 := blk_frozen BK102.out 1
                                       have hfz102_2 := blk_frozen BK102.out 2
                                       go_wp2
                                       refine bodyPost_ret (results_ct rfl _ _ gb102 28 #[.bool ((bt a0 0) == 45), .string x14_12, .int .i64 x12_83] (0, 0) _ rfl (by (with_reducible repeat (first | refine blk_drewN ?_ _ | refine blk_drew ?_ | refine blk_alloc ?_ _)); refine blk_put (cs := #[.bool ((bt a0 0) == 45), .string x14_12, .int .i64 x103002_38]) ?_ 2 _ rfl; (with_reducible repeat (first | refine blk_drewN ?_ _ | refine blk_drew ?_ | refine blk_alloc ?_ _)); refine blk_put (cs := #[.bool ((bt a0 0) == 45), .string x103001_38, .int .i64 x103002_38]) ?_ 1 _ rfl; (with_reducible repeat (first | refine blk_drewN ?_ _ | refine blk_drew ?_ | refine blk_alloc ?_ _)); refine blk_put (cs := #[.bool x103000_38, .string x103001_38, .int .i64 x103002_38]) ?_ 0 _ rfl; (with_reducible repeat (first | refine blk_drewN ?_ _ | refine blk_drew ?_ | refine blk_alloc ?_ _)); exact BK102.out) Tryz.underlying28 rfl (by kernel_rfl)) rfl ?_
                                       exact ⟨by first | rfl | (simp [errW_none, errW_some] <;> rfl) | (simp [*, errW_none, errW_some] <;> rfl), by repeat (first | (with_reducible first | exact HB.out | apply below_alloc | apply pw_below_drewN | apply below_drew1 | refine below_set ?_ GE102.out) | exact HB.out)⟩
                                      ·
                                       rw [if_neg c100] at H
                                       exact absurd H (by simp)
                                   ·
                                    rw [if_neg c94] at H
                                    exact absurd H (by simp)
                                  ·
                                   rw [if_neg c93] at H
                                   have c93b0 : decide (0 < (x14_12.size : Int)) = false := decide_eq_false c93
                                   have c93b1 : decide (0 < x14_12.size) = false := decide_eq_false (by omega)
                                   clear c93
                                   by_cases c103 : x14_12.toList = ([] : List UInt8)
                                   ·
                                    rw [if_pos c103] at H
                                    have c103b0 : (x14_12.toList == ([] : List UInt8)) = true := beq_iff_eq.mpr c103
                                    have c103b1 : (x14_12.toList != ([] : List UInt8)) = false := bne_eq_false_iff_eq.mpr c103
                                    clear c103
                                    simp only [Option.some.injEq, Prod.mk.injEq] at H
                                    obtain ⟨rfl, rfl, rfl, rfl⟩ := H
                                    have hcz104_0 : wr.cell? ⟨gb102, 0, none⟩ = some (.bool x103000_38) := (blk_cell BK102.out 0).trans rfl
                                    have hcz104_1 : wr.cell? ⟨gb102, 1, none⟩ = some (.string x103001_38) := (blk_cell BK102.out 1).trans rfl
                                    have hcz104_2 : wr.cell? ⟨gb102, 2, none⟩ = some (.int .i64 x103002_38) := (blk_cell BK102.out 2).trans rfl
                                    have hfz104_0 := blk_frozen BK102.out 0
                                    have hfz104_1 := blk_frozen BK102.out 1
                                    have hfz104_2 := blk_frozen BK102.out 2
                                    go_wp2
                                    refine bodyPost_ret (results_ct rfl _ _ gb102 28 #[.bool false, .string (⟨#[]⟩ : ByteArray), .int .i64 0] (0, 0) _ rfl (by (with_reducible repeat (first | refine blk_drewN ?_ _ | refine blk_drew ?_ | refine blk_alloc ?_ _)); refine blk_put (cs := #[.bool false, .string (⟨#[]⟩ : ByteArray), .int .i64 x103002_38]) ?_ 2 _ rfl; (with_reducible repeat (first | refine blk_drewN ?_ _ | refine blk_drew ?_ | refine blk_alloc ?_ _)); refine blk_put (cs := #[.bool false, .string x103001_38, .int .i64 x103002_38]) ?_ 1 _ rfl; (with_reducible repeat (first | refine blk_drewN ?_ _ | refine blk_drew ?_ | refine blk_alloc ?_ _)); refine blk_put (cs := #[.bool x103000_38, .string x103001_38, .int .i64 x103002_38]) ?_ 0 _ rfl; (with_reducible repeat (first | refine blk_drewN ?_ _ | refine blk_drew ?_ | refine blk_alloc ?_ _)); exact BK102.out) Tryz.underlying28 rfl (by kernel_rfl)) rfl ?_
                                    exact ⟨by first | rfl | (simp [errW_none, errW_some] <;> rfl) | (simp [*, errW_none, errW_some] <;> rfl), by repeat (first | (with_reducible first | exact HB.out | apply below_alloc | apply pw_below_drewN | apply below_drew1 | refine below_set ?_ GE102.out) | exact HB.out)⟩
                                   ·
                                    rw [if_neg c103] at H
                                    have c103b0 : (x14_12.toList == ([] : List UInt8)) = false := beq_eq_false_iff_ne.mpr c103
                                    have c103b1 : (x14_12.toList != ([] : List UInt8)) = true := bne_iff_ne.mpr c103
                                    by_cases c105 : 0 < (a0.size : Int)
                                    ·
                                     rw [if_pos c105] at H
                                     have c105b0 : decide (0 < (a0.size : Int)) = true := decide_eq_true c105
                                     have c105b1 : decide (0 < a0.size) = true := decide_eq_true (by omega)
                                     clear c105
                                     simp only [Option.some.injEq, Prod.mk.injEq] at H
                                     obtain ⟨rfl, rfl, rfl, rfl⟩ := H
                                     have p106 : 0 ≤ (0 : Int) := (by omega)
                                     have q106 : 0 < a0.size := (by have : (0 : Int) < (a0.size : Int) := of_decide_eq_true (by first | (with_reducible assumption) | assumption); omega)
                                     have hx106 : ∀ h : 0 < a0.size, ((a0[0]'h).toNat : Int) = bt a0 0 := bt_at a0 0
                                     clear p106
                                     have qi106 : (0 < (a0.size : Int)) = True := eq_true (of_decide_eq_true (by first | (with_reducible assumption) | assumption))
                                     replace q106 := eq_true q106
                                     have hcz107_0 : wr.cell? ⟨gb102, 0, none⟩ = some (.bool x103000_38) := (blk_cell BK102.out 0).trans rfl
                                     have hcz107_1 : wr.cell? ⟨gb102, 1, none⟩ = some (.string x103001_38) := (blk_cell BK102.out 1).trans rfl
                                     have hcz107_2 : wr.cell? ⟨gb102, 2, none⟩ = some (.int .i64 x103002_38) := (blk_cell BK102.out 2).trans rfl
                                     have hfz107_0 := blk_frozen BK102.out 0
                                     have hfz107_1 := blk_frozen BK102.out 1
                                     have hfz107_2 := blk_frozen BK102.out 2
                                     go_wp2
                                     refine bodyPost_ret (results_ct rfl _ _ gb102 28 #[.bool ((bt a0 0) == 45), .string x14_12, .int .i64 x12_83] (0, 0) _ rfl (by (with_reducible repeat (first | refine blk_drewN ?_ _ | refine blk_drew ?_ | refine blk_alloc ?_ _)); refine blk_put (cs := #[.bool ((bt a0 0) == 45), .string x14_12, .int .i64 x103002_38]) ?_ 2 _ rfl; (with_reducible repeat (first | refine blk_drewN ?_ _ | refine blk_drew ?_ | refine blk_alloc ?_ _)); refine blk_put (cs := #[.bool ((bt a0 0) == 45), .string x103001_38, .int .i64 x103002_38]) ?_ 1 _ rfl; (with_reducible repeat (first | refine blk_drewN ?_ _ | refine blk_drew ?_ | refine blk_alloc ?_ _)); refine blk_put (cs := #[.bool x103000_38, .string x103001_38, .int .i64 x103002_38]) ?_ 0 _ rfl; (with_reducible repeat (first | refine blk_drewN ?_ _ | refine blk_drew ?_ | refine blk_alloc ?_ _)); exact BK102.out) Tryz.underlying28 rfl (by kernel_rfl)) rfl ?_
                                     exact ⟨by first | rfl | (simp [errW_none, errW_some] <;> rfl) | (simp [*, errW_none, errW_some] <;> rfl), by repeat (first | (with_reducible first | exact HB.out | apply below_alloc | apply pw_below_drewN | apply below_drew1 | refine below_set ?_ GE102.out) | exact HB.out)⟩
                                    ·
                                     rw [if_neg c105] at H
                                     exact absurd H (by simp)
                             ·
                              rw [if_neg c83] at H
                              exact absurd H (by simp)
                   ·
                    rw [if_neg c67] at H
                    have c67b0 : (x5_38 == (a0.size : Int)) = false := beq_eq_false_iff_ne.mpr c67
                    have c67b1 : (x5_38 != (a0.size : Int)) = true := bne_iff_ne.mpr c67
                    simp only [Option.some.injEq, Prod.mk.injEq] at H
                    obtain ⟨rfl, rfl, rfl, rfl⟩ := H
                    have hcz108_0 : wc.cell? ⟨gb102, 0, none⟩ = some (.bool x103000_38) := (blk_cell BK102.out 0).trans rfl
                    have hcz108_1 : wc.cell? ⟨gb102, 1, none⟩ = some (.string x103001_38) := (blk_cell BK102.out 1).trans rfl
                    have hcz108_2 : wc.cell? ⟨gb102, 2, none⟩ = some (.int .i64 x103002_38) := (blk_cell BK102.out 2).trans rfl
                    have hfz108_0 := blk_frozen BK102.out 0
                    have hfz108_1 := blk_frozen BK102.out 1
                    have hfz108_2 := blk_frozen BK102.out 2
                    go_wp2
                    refine bodyPost_ret (results_ct rfl _ _ gb102 28 #[.bool false, .string (⟨#[]⟩ : ByteArray), .int .i64 0] (0, 0) _ rfl (by (with_reducible repeat (first | refine blk_drewN ?_ _ | refine blk_drew ?_ | refine blk_alloc ?_ _)); refine blk_put (cs := #[.bool false, .string (⟨#[]⟩ : ByteArray), .int .i64 x103002_38]) ?_ 2 _ rfl; (with_reducible repeat (first | refine blk_drewN ?_ _ | refine blk_drew ?_ | refine blk_alloc ?_ _)); refine blk_put (cs := #[.bool false, .string x103001_38, .int .i64 x103002_38]) ?_ 1 _ rfl; (with_reducible repeat (first | refine blk_drewN ?_ _ | refine blk_drew ?_ | refine blk_alloc ?_ _)); refine blk_put (cs := #[.bool x103000_38, .string x103001_38, .int .i64 x103002_38]) ?_ 0 _ rfl; (with_reducible repeat (first | refine blk_drewN ?_ _ | refine blk_drew ?_ | refine blk_alloc ?_ _)); exact BK102.out) Tryz.underlying28 rfl (by kernel_rfl)) rfl ?_
                    exact ⟨by first | rfl | (simp [errW_none, errW_some] <;> rfl) | (simp [*, errW_none, errW_some] <;> rfl), by repeat (first | (with_reducible first | exact HB.out | apply below_alloc | apply pw_below_drewN | apply below_drew1 | refine below_set ?_ GE102.out) | exact HB.out)⟩
          ·
           rw [if_neg c19] at H
           exact absurd H (by simp)
         ·
          rw [if_neg c18] at H
          exact absurd H (by simp)
        ·
         rw [if_neg c17] at H
         exact absurd H (by simp)

end Go.Proofs.YtjaongknagmfiaaGreatDoor.PW
