/-
  The law's 'same' (as in Run, by itself).
-/
import Derived.Test.YtgdfgahpjebcaaaGreatDoorMd
set_option linter.unusedSimpArgs false
set_option linter.unusedVariables false
namespace Go.Proofs.YtgdfgahpjebcaaaGreatDoor
open Go.RowKit Go.Proofs.YtgdfgahpjebcaaaGreatDoorW.PrintWords Go.Proofs.YtgdfgahpjebcaaaGreatDoor.PT

/-! ### same -/
set_option maxHeartbeats 2000000 in
theorem sm_nil (a : Int) (w : World) : Calls Tryz.prog 10 #[.nilIface, .agg #[.int .i64 a, .int .i64 0]] w fun e w' => e = .returned (.bool true) ∧ Below w.heap.size w w' := by
  go_enter Tryz.func10, Tryz.ntmps10
  go_wp2
  go_ret
  exact ⟨rfl, bl_alloc (Below.refl _ _) _⟩
set_option maxHeartbeats 2000000 in
theorem sm_ref (g : Nat) (a y : Int) (w : World) (h : IsRef w g a y) (he : Env w) (ha : -9223372036854775808 ≤ a ∧ a ≤ 9223372036854775807) (hy : 0 < y ∧ y < 100) :
    Calls Tryz.prog 10 #[.iface 55 (.pointer (some ⟨g, 0, none⟩)), .agg #[.int .i64 a, .int .i64 y]] w fun e w' => e = .returned (.bool true) ∧ Below w.heap.size w w' := by
  have HF := Aside0.mk h
  have HE := Aside0.mk he
  have c1 : (y == 0) = false := beq_eq_false_iff_ne.mpr (by omega)
  have hb : Below w.heap.size w (w.alloc (.cells #[.int .i64 a, .int .i64 y] 34)) := bl_alloc (Below.refl _ _) _
  have HF2 := Aside0.mk (h.below hb h.lt)
  have HE2 := Aside0.mk (he.below hb he.size)
  clear h hb he
  go_enter Tryz.func10, Tryz.ntmps10
  go_wp2_with (first
    | (go_at_call 24; (with_reducible refine (refused_hit g a y _ HF2.out HE2.out ha ?_).mono ?_); (focus omega); rintro e w5 ⟨rfl, hb5⟩))
  go_ret
  exact ⟨rfl, bl_trans (bl_alloc (Below.refl _ _) _) hb5⟩
/-- same at what a function of SPost and the reference answer. -/
def ErrAt (w : World) (v : Value) (a y : Int) : Prop := (y = 0 ∧ v = .nilIface) ∨ (y ≠ 0 ∧ ∃ g, v = .iface 55 (.pointer (some ⟨g, 0, none⟩)) ∧ IsRef w g a y)
theorem ErrAt.below {w w' : World} {v : Value} {a y : Int} (h : ErrAt w v a y) (hb : Below w.heap.size w w') : ErrAt w' v a y := by
  rcases h with h | ⟨h, g, hv, hr⟩
  · exact .inl h
  · exact .inr ⟨h, g, hv, hr.below hb hr.lt⟩
theorem sm_any (v : Value) (a y : Int) (w : World) (h : ErrAt w v a y) (he : Env w) (ha : -9223372036854775808 ≤ a ∧ a ≤ 9223372036854775807) (hy : 0 ≤ y ∧ y < 100) :
    Calls Tryz.prog 10 #[v, .agg #[.int .i64 a, .int .i64 y]] w fun e w' => e = .returned (.bool true) ∧ Below w.heap.size w w' := by
  rcases h with ⟨rfl, rfl⟩ | ⟨h0, g, rfl, hr⟩
  · exact sm_nil a w
  · exact sm_ref g a y w hr he ha (by omega)

theorem cellB {w : World} {g : Nat} {cs : Array Value} {t : TypeId} (h : w.heap[g]? = some (.cells cs t (0, 0))) (j : Nat) (v : Value) (hv : cs[j]? = some v) : w.cell? ⟨g, j, none⟩ = some v := (Lib.cell_of_heap h j).trans hv
theorem keepB {w w' : World} {B k : Nat} {o : Obj} (h : w.heap[k]? = some o) (hb : Below w.heap.size w w') : w'.heap[k]? = some o := (hb.block k (by rcases Nat.lt_or_ge k w.heap.size with h1 | h1; exact h1; rw [Array.getElem?_eq_none h1] at h; cases h)).trans h
end Go.Proofs.YtgdfgahpjebcaaaGreatDoor
