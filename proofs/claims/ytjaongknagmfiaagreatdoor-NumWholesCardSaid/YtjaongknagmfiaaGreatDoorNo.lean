/-
  The laws' helpers normal, bad, plain and whole, where they answer true. PRINTED by gen_no.py.
-/
import Derived.Test.YtjaongknagmfiaaGreatDoorNm
set_option linter.unusedSimpArgs false
set_option linter.unusedVariables false
namespace Go.Proofs.YtjaongknagmfiaaGreatDoor
open Go.RowKit Go.Proofs.YtjaongknagmfiaaGreatDoorW.PrintWords Go.Proofs.YtjaongknagmfiaaGreatDoor.PT

theorem beq_self (l : List UInt8) : ((B l).toList == (B l).toList) = true := by rw [beq_list]; exact decide_eq_true rfl
set_option maxRecDepth 100000 in
theorem normal_hit (a b : List UInt8) (w : World) (ha : a.length ≤ 50000) (h : normL a = (b, 0)) (he : Env w) : Calls Tryz.prog 26 #[.string (B a), .string (B b)] w fun e w' => e = .returned (.bool true) ∧ Below w.heap.size w w' := by
  have HN := normal_any a w ha he
  rw [h] at HN
  have HN := Aside0.mk (show Calls Tryz.prog 10 #[.string (B a)] w fun e w' => e = .returned (.tuple #[.string (B b), .int .i64 0]) ∧ Below w.heap.size w w' from HN)
  rename_i HN0
  have q := beq_self b
  clear HN0 h
  go_enter Tryz.func26, Tryz.ntmps26
  go_wp2_with (first
    | (go_at_call 10; (with_reducible refine HN.out.mono ?_); rintro e w1 ⟨rfl, hb1⟩))
  go_ret
  exact ⟨rfl, hb1⟩
set_option maxRecDepth 100000 in
theorem plain_hit (a b : List UInt8) (w : World) (ha : a.length ≤ 50000) (h : plainL a = (b, 0)) (he : Env w) : Calls Tryz.prog 28 #[.string (B a), .string (B b)] w fun e w' => e = .returned (.bool true) ∧ Below w.heap.size w w' := by
  have HN := plain_any a w ha he
  rw [h] at HN
  have HN := Aside0.mk (show Calls Tryz.prog 13 #[.string (B a)] w fun e w' => e = .returned (.tuple #[.string (B b), .int .i64 0]) ∧ Below w.heap.size w w' from HN)
  rename_i HN0
  have q := beq_self b
  clear HN0 h
  go_enter Tryz.func28, Tryz.ntmps28
  go_wp2_with (first
    | (go_at_call 13; (with_reducible refine HN.out.mono ?_); rintro e w1 ⟨rfl, hb1⟩))
  go_ret
  exact ⟨rfl, hb1⟩
set_option maxRecDepth 100000 in
theorem bad_hit (a : List UInt8) (y : Int) (w : World) (ha : a.length ≤ 50000) (h : normL a = ([], y)) (he : Env w) : Calls Tryz.prog 27 #[.string (B a), .int .i64 y] w fun e w' => e = .returned (.bool true) ∧ Below w.heap.size w w' := by
  have HN := normal_any a w ha he
  rw [h] at HN
  have HN := Aside0.mk (show Calls Tryz.prog 10 #[.string (B a)] w fun e w' => e = .returned (.tuple #[.string ⟨#[]⟩, .int .i64 y]) ∧ Below w.heap.size w w' from HN)
  rename_i HN0
  have q : (y == y) = true := by simp
  clear HN0 h
  go_enter Tryz.func27, Tryz.ntmps27
  go_wp2_with (first
    | (go_at_call 10; (with_reducible refine HN.out.mono ?_); rintro e w1 ⟨rfl, hb1⟩))
  go_ret
  exact ⟨rfl, hb1⟩
set_option maxRecDepth 100000 in
theorem whole_hit (a : List UInt8) (base : Int) (b : List UInt8) (y : Int) (w : World) (ha : a.length ≤ 50000) (h : wholeL a base = (b, y)) (he : Env w) : Calls Tryz.prog 29 #[.string (B a), .int .i64 base, .string (B b), .int .i64 y] w fun e w' => e = .returned (.bool true) ∧ Below w.heap.size w w' := by
  have HN := whole_any a base w ha he
  rw [h] at HN
  have HN := Aside0.mk (show Calls Tryz.prog 17 #[.string (B a), .int .i64 base] w fun e w' => e = .returned (.tuple #[.string (B b), .int .i64 y]) ∧ Below w.heap.size w w' from HN)
  rename_i HN0
  have q := beq_self b
  have q2 : (y == y) = true := by simp
  clear HN0 h
  go_enter Tryz.func29, Tryz.ntmps29
  go_wp2_with (first
    | (go_at_call 17; (with_reducible refine HN.out.mono ?_); rintro e w1 ⟨rfl, hb1⟩))
  go_ret
  exact ⟨rfl, hb1⟩
end Go.Proofs.YtjaongknagmfiaaGreatDoor
