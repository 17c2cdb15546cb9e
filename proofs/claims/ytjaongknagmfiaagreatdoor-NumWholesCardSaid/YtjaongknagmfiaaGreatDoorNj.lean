/-
  num.Compare, walked. PRINTED by gen_nj.py.
-/
import Derived.Test.YtjaongknagmfiaaGreatDoorNi
set_option linter.unusedSimpArgs false
set_option linter.unusedVariables false
namespace Go.Proofs.YtjaongknagmfiaaGreatDoor
open Go.RowKit Go.Proofs.YtjaongknagmfiaaGreatDoorW.PrintWords Go.Proofs.YtjaongknagmfiaaGreatDoor.PT

theorem rightL_bounds (l : List UInt8) (hl : l.length ≤ 50000) : (rightL l).1.2.1.length ≤ 100000 ∧ (-2000000 ≤ (rightL l).1.2.2 ∧ (rightL l).1.2.2 ≤ 2000000) := by
  unfold rightL
  split
  · simp
  · have := splitL_bounds l (by omega); omega
/-- What num.Compare answers, of the two numbers' parts. -/
def cmpP (p q : Bool × List UInt8 × Int) : Int :=
  if p.1 = true then (if q.1 = true then ordL q.2.1 q.2.2 p.2.1 p.2.2 else -1) else (if q.1 = true then 1 else ordL p.2.1 p.2.2 q.2.1 q.2.2)
def cmpL (a b : List UInt8) : Int × Int :=
  if (rightL a).2 ≠ 0 then (0, (rightL a).2) else if (rightL b).2 ≠ 0 then (0, (rightL b).2) else (cmpP (rightL a).1 (rightL b).1, 0)
set_option maxHeartbeats 1000000 in
set_option maxRecDepth 100000 in
theorem compare_any (a b : List UInt8) (w : World) (ha : a.length ≤ 50000) (hb : b.length ≤ 50000) (he : Env w) : Calls Tryz.prog 15 #[.string (B a), .string (B b)] w fun e w' => e = .returned (.tuple #[.int .i64 (cmpL a b).1, .int .i64 (cmpL a b).2]) ∧ Below w.heap.size w w' := by
  have HA := fun (w : World) (he : Env w) => right_any a w ha he
  have HB := fun (w : World) (he : Env w) => right_any b w hb he
  have ra := rightL_bounds a ha
  have rb := rightL_bounds b hb
  obtain ⟨X, hX⟩ : ∃ X, cmpL a b = X := ⟨_, rfl⟩
  rw [hX]
  unfold cmpL at hX
  generalize rightL a = p at HA ra hX
  generalize rightL b = q at HB rb hX
  obtain ⟨⟨n, d, x⟩, y⟩ := p
  obtain ⟨⟨n', d', x'⟩, y'⟩ := q
  simp only at HA HB ra rb hX
  have HA := Aside0.mk (show ∀ w : World, Env w → Calls Tryz.prog 30 #[.string (B a)] w fun e w' => e = .returned (.tuple #[.agg #[.bool n, .string (B d), .int .i64 x], .int .i64 y]) ∧ Below w.heap.size w w' from HA)
  have HB := Aside0.mk (show ∀ w : World, Env w → Calls Tryz.prog 30 #[.string (B b)] w fun e w' => e = .returned (.tuple #[.agg #[.bool n', .string (B d'), .int .i64 x'], .int .i64 y']) ∧ Below w.heap.size w w' from HB)
  have HE := Aside0.mk he
  clear he
  by_cases hy : y = 0
  · rw [if_neg (fun h => h hy)] at hX
    subst hy
    by_cases hy' : y' = 0
    · rw [if_neg (fun h => h hy')] at hX
      subst hy'
      unfold cmpP at hX
      simp only at hX
      cases n with
      | true =>
        cases n' with
        | true =>
          simp only [if_true, Bool.false_eq_true, if_false] at hX
          subst hX
          go_enter Tryz.func15, Tryz.ntmps15
          go_wp2_with (first
            | (go_at_call 30; (with_reducible refine (HA.out _ HE.out).mono ?_); rintro e w1 ⟨rfl, hb1⟩; have hb1' : Below w.heap.size w (w1.alloc (.cells #[.bool true, .string (B d), .int .i64 x] 24)) := bl_alloc hb1 _; have HE2 := Aside0.mk (HE.out.below hb1' HE.out.size); have hk1 := heap_alloc_new w1 (.cells #[.bool true, .string (B d), .int .i64 x] 24))
            | (go_at_call 30; (with_reducible refine (HB.out _ HE2.out).mono ?_); rintro e w2 ⟨rfl, hb2⟩; have hb2' : Below w.heap.size w (w2.alloc (.cells #[.bool true, .string (B d'), .int .i64 x'] 24)) := bl_alloc (bl_trans hb1' hb2) _; have hk2 := blk_below hk1 hb2; obtain ⟨k0, k1, k2, z0, z1, z2⟩ := blk3 (blk_alloc hk2 (.cells #[.bool true, .string (B d'), .int .i64 x'] 24)))
            | (go_at_call 33; (with_reducible refine (order_any true true d' d x' x _ rb.1 ra.1 rb.2 ra.2).mono ?_); rintro e w3 ⟨rfl, hb3⟩))
          go_ret2
          exact ⟨rfl, bl_trans hb2' hb3⟩
        | false =>
          simp only [if_true, Bool.false_eq_true, if_false] at hX
          subst hX
          go_enter Tryz.func15, Tryz.ntmps15
          go_wp2_with (first
            | (go_at_call 30; (with_reducible refine (HA.out _ HE.out).mono ?_); rintro e w1 ⟨rfl, hb1⟩; have hb1' : Below w.heap.size w (w1.alloc (.cells #[.bool true, .string (B d), .int .i64 x] 24)) := bl_alloc hb1 _; have HE2 := Aside0.mk (HE.out.below hb1' HE.out.size); have hk1 := heap_alloc_new w1 (.cells #[.bool true, .string (B d), .int .i64 x] 24))
            | (go_at_call 30; (with_reducible refine (HB.out _ HE2.out).mono ?_); rintro e w2 ⟨rfl, hb2⟩; have hb2' : Below w.heap.size w (w2.alloc (.cells #[.bool false, .string (B d'), .int .i64 x'] 24)) := bl_alloc (bl_trans hb1' hb2) _; have hk2 := blk_below hk1 hb2; obtain ⟨k0, k1, k2, z0, z1, z2⟩ := blk3 (blk_alloc hk2 (.cells #[.bool false, .string (B d'), .int .i64 x'] 24))))
          go_ret2
          exact ⟨rfl, hb2'⟩
      | false =>
        cases n' with
        | true =>
          simp only [if_true, Bool.false_eq_true, if_false] at hX
          subst hX
          go_enter Tryz.func15, Tryz.ntmps15
          go_wp2_with (first
            | (go_at_call 30; (with_reducible refine (HA.out _ HE.out).mono ?_); rintro e w1 ⟨rfl, hb1⟩; have hb1' : Below w.heap.size w (w1.alloc (.cells #[.bool false, .string (B d), .int .i64 x] 24)) := bl_alloc hb1 _; have HE2 := Aside0.mk (HE.out.below hb1' HE.out.size); have hk1 := heap_alloc_new w1 (.cells #[.bool false, .string (B d), .int .i64 x] 24))
            | (go_at_call 30; (with_reducible refine (HB.out _ HE2.out).mono ?_); rintro e w2 ⟨rfl, hb2⟩; have hb2' : Below w.heap.size w (w2.alloc (.cells #[.bool true, .string (B d'), .int .i64 x'] 24)) := bl_alloc (bl_trans hb1' hb2) _; have hk2 := blk_below hk1 hb2; obtain ⟨k0, k1, k2, z0, z1, z2⟩ := blk3 (blk_alloc hk2 (.cells #[.bool true, .string (B d'), .int .i64 x'] 24))))
          go_ret2
          exact ⟨rfl, hb2'⟩
        | false =>
          simp only [if_true, Bool.false_eq_true, if_false] at hX
          subst hX
          go_enter Tryz.func15, Tryz.ntmps15
          go_wp2_with (first
            | (go_at_call 30; (with_reducible refine (HA.out _ HE.out).mono ?_); rintro e w1 ⟨rfl, hb1⟩; have hb1' : Below w.heap.size w (w1.alloc (.cells #[.bool false, .string (B d), .int .i64 x] 24)) := bl_alloc hb1 _; have HE2 := Aside0.mk (HE.out.below hb1' HE.out.size); have hk1 := heap_alloc_new w1 (.cells #[.bool false, .string (B d), .int .i64 x] 24))
            | (go_at_call 30; (with_reducible refine (HB.out _ HE2.out).mono ?_); rintro e w2 ⟨rfl, hb2⟩; have hb2' : Below w.heap.size w (w2.alloc (.cells #[.bool false, .string (B d'), .int .i64 x'] 24)) := bl_alloc (bl_trans hb1' hb2) _; have hk2 := blk_below hk1 hb2; obtain ⟨k0, k1, k2, z0, z1, z2⟩ := blk3 (blk_alloc hk2 (.cells #[.bool false, .string (B d'), .int .i64 x'] 24)))
            | (go_at_call 33; (with_reducible refine (order_any false false d d' x x' _ ra.1 rb.1 ra.2 rb.2).mono ?_); rintro e w3 ⟨rfl, hb3⟩))
          go_ret2
          exact ⟨rfl, bl_trans hb2' hb3⟩
    · rw [if_pos hy'] at hX
      subst hX
      have qy : (y' != 0) = true := by simpa using hy'
      go_enter Tryz.func15, Tryz.ntmps15
      go_wp2_with (first
        | (go_at_call 30; (with_reducible refine (HA.out _ HE.out).mono ?_); rintro e w1 ⟨rfl, hb1⟩; have hb1' : Below w.heap.size w (w1.alloc (.cells #[.bool n, .string (B d), .int .i64 x] 24)) := bl_alloc hb1 _; have HE2 := Aside0.mk (HE.out.below hb1' HE.out.size); have hk1 := heap_alloc_new w1 (.cells #[.bool n, .string (B d), .int .i64 x] 24))
        | (go_at_call 30; (with_reducible refine (HB.out _ HE2.out).mono ?_); rintro e w2 ⟨rfl, hb2⟩; have hb2' : Below w.heap.size w (w2.alloc (.cells #[.bool n', .string (B d'), .int .i64 x'] 24)) := bl_alloc (bl_trans hb1' hb2) _; have hk2 := blk_below hk1 hb2; obtain ⟨k0, k1, k2, z0, z1, z2⟩ := blk3 (blk_alloc hk2 (.cells #[.bool n', .string (B d'), .int .i64 x'] 24))))
      go_ret2
      exact ⟨rfl, hb2'⟩
  · rw [if_pos hy] at hX
    subst hX
    have qy : (y != 0) = true := by simpa using hy
    go_enter Tryz.func15, Tryz.ntmps15
    go_wp2_with (first
      | (go_at_call 30; (with_reducible refine (HA.out _ HE.out).mono ?_); rintro e w1 ⟨rfl, hb1⟩; have hb1' : Below w.heap.size w (w1.alloc (.cells #[.bool n, .string (B d), .int .i64 x] 24)) := bl_alloc hb1 _; have HE2 := Aside0.mk (HE.out.below hb1' HE.out.size); have hk1 := heap_alloc_new w1 (.cells #[.bool n, .string (B d), .int .i64 x] 24)))
    go_ret2
    exact ⟨rfl, hb1'⟩
end Go.Proofs.YtjaongknagmfiaaGreatDoor
