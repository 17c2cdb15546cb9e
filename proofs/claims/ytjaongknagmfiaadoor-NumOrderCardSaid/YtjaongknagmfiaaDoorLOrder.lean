/-
  NumOrder is true: the plain law over the printed functions.
-/
import Derived.Test.YtjaongknagmfiaaDoorPOx
import Derived.Test.YtjaongknagmfiaaDoorCmp
set_option linter.unusedSimpArgs false
set_option linter.unusedVariables false
namespace Go.Proofs.YtjaongknagmfiaaDoor
open Go.RowKit Go.Proofs.YtjaongknagmfiaaDoorW.PrintWords Go.Proofs.YtjaongknagmfiaaDoor.PO

theorem few_o (l : List UInt8) (n : Nat) : emendlaw2_few.f (B l) (n : Int) = some (B (l.take n)) := by
  unfold emendlaw2_few.f
  by_cases h : n < l.length
  · rw [if_pos (by rw [B_size]; omega), if_pos (by omega), if_pos (by rw [B_size]; omega), Int.toNat_natCast, B_head]
  · rw [if_neg (by rw [B_size]; omega), List.take_of_length_le (by omega)]
theorem cmp_o (a b : List UInt8) (ha : a.length ≤ 200) (hb : b.length ≤ 200) : num_Compare.f (B a) (B b) = some ((cmpL a b).1, (cmpL a b).2) := by
  unfold num_Compare.f
  rw [if_pos ⟨by rw [B_size]; omega, by rw [B_size]; omega⟩, B_data, B_data]
theorem runs_o : emendlaw2_NumRuns.f = some true := rfl
set_option maxHeartbeats 1000000 in
theorem order_j0 (a b : List UInt8) (ha : a.length ≤ 200) (hb : b.length ≤ 200) (x y z : Int) (g : Bool) (k : Nat)
    (h : g = false → ∃ p q r, rightL a = (p, 0) ∧ rightL b = (q, 0) ∧ x = cmpP p q ∧ y = cmpP q r ∧ z = cmpP p r) : emendlaw2_NumOrder.j0 (k + 1) (B a) (B b) x y z g = some true := by
  rw [emendlaw2_NumOrder.j0]
  cases g with
  | true => rw [if_pos rfl]; rfl
  | false =>
    obtain ⟨p, q, r, hp, hq, rfl, rfl, rfl⟩ := h rfl
    rw [if_neg (by decide), cmp_o b a hb ha, Option.bind_some, cmp_o a a ha ha, Option.bind_some]
    have e1 : cmpL b a = (cmpP q p, 0) := by unfold cmpL; rw [hp, hq]; rfl
    have e2 : cmpL a a = (cmpP p p, 0) := by unfold cmpL; rw [hp]; rfl
    rw [e1, e2]
    have c := Cmp.num
    have h1 := c.anti p q
    have h2 := c.self p
    have h3 := c.trans p q r
    have h4 := c.strict p q r
    have h5 := c.eq p q r
    have h6 := c.rng q p
    generalize cmpP p q = x at *
    generalize cmpP q r = y at *
    generalize cmpP p r = z at *
    generalize cmpP q p = v at *
    simp only
    rw [show wrap64 (-v) = -v by unfold wrap64; omega, if_pos h1, if_pos h2]
    simp only [runs_o, Option.bind_some]
    repeat' split
    all_goals first
      | rfl
      | (exfalso; omega)
theorem numOrder_f (a b c : List UInt8) : emendlaw2_NumOrder.f 10 (B a) (B b) (B c) = some true := by
  unfold emendlaw2_NumOrder.f
  have fa := few_o a 200
  have fb := few_o b 200
  have fc := few_o c 200
  rw [show ((200 : Nat) : Int) = 200 from rfl] at fa fb fc
  have la : (a.take 200).length ≤ 200 := by rw [List.length_take]; omega
  have lb : (b.take 200).length ≤ 200 := by rw [List.length_take]; omega
  have lc : (c.take 200).length ≤ 200 := by rw [List.length_take]; omega
  rw [fa, fb, fc, Option.bind_some, Option.bind_some, Option.bind_some, cmp_o _ _ la lb, cmp_o _ _ lb lc, cmp_o _ _ la lc, Option.bind_some, Option.bind_some, Option.bind_some]
  generalize a.take 200 = a at *
  generalize b.take 200 = b at *
  generalize c.take 200 = c at *
  simp only
  by_cases h1 : (cmpL a b).2 = 0
  · rw [if_pos h1]
    by_cases h2 : (cmpL b c).2 = 0
    · rw [if_pos h2]
      refine order_j0 a b la lb _ _ _ _ 9 (fun g => ?_)
      have h3 : (cmpL a c).2 = 0 := by simpa using g
      unfold cmpL at h1 h2 h3 ⊢
      by_cases r1 : (rightL a).2 = 0
      · by_cases r2 : (rightL b).2 = 0
        · by_cases r3 : (rightL c).2 = 0
          · refine ⟨(rightL a).1, (rightL b).1, (rightL c).1, by rw [← r1], by rw [← r2], ?_, ?_, ?_⟩
            · rw [if_neg (fun k => k r1), if_neg (fun k => k r2)]
            · rw [if_neg (fun k => k r2), if_neg (fun k => k r3)]
            · rw [if_neg (fun k => k r1), if_neg (fun k => k r3)]
          · rw [if_neg (fun k => k r2), if_pos r3] at h2; exact absurd h2 r3
        · rw [if_pos r2] at h2; exact absurd h2 r2
      · rw [if_pos r1] at h1; exact absurd h1 r1
    · rw [if_neg h2]
      exact order_j0 a b la lb _ _ _ _ 9 (fun g => by cases g)
  · rw [if_neg h1]
    exact order_j0 a b la lb _ _ _ _ 9 (fun g => by cases g)
theorem numOrder_true (a b c : List UInt8) (w : World) (he : Env w) (ha : a.length ≤ 9223372036854775807) (hb : b.length ≤ 9223372036854775807) (hc : c.length ≤ 9223372036854775807) :
    Calls Tryd.prog 6 #[.string (B a), .string (B b), .string (B c)] w fun e w' => e = .returned (.bool true) ∧ Below w.heap.size w w' :=
  emendlaw2_NumOrder.calls 10 (B a) (B b) (B c) true w he (numOrder_f a b c)
end Go.Proofs.YtjaongknagmfiaaDoor
