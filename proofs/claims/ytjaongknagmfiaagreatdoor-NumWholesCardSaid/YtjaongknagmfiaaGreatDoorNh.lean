/-
  num.right, walked.
-/
import Derived.Test.YtjaongknagmfiaaGreatDoorNg
set_option linter.unusedSimpArgs false
set_option linter.unusedVariables false
namespace Go.Proofs.YtjaongknagmfiaaGreatDoor
open Go.RowKit Go.Proofs.YtjaongknagmfiaaGreatDoorW.PrintWords Go.Proofs.YtjaongknagmfiaaGreatDoor.PT

/-- What num.right answers. -/
def rightL (l : List UInt8) : (Bool × List UInt8 × Int) × Int := if (normL l).2 ≠ 0 then ((false, [], 0), (normL l).2) else splitL l
set_option maxHeartbeats 8000000 in
set_option maxRecDepth 100000 in
theorem right_any (l : List UInt8) (w : World) (hl : l.length ≤ 50000) (he : Env w) : Calls Tryz.prog 30 #[.string (B l)] w fun e w' => e = .returned (.tuple #[.agg (partsV (rightL l).1), .int .i64 (rightL l).2]) ∧ Below w.heap.size w w' := by
  have HN := fun (w : World) (he : Env w) => normal_any l w hl he
  have HS := fun w => split_any l w (by omega)
  obtain ⟨X, hX⟩ : ∃ X, rightL l = X := ⟨_, rfl⟩
  rw [hX]
  unfold rightL at hX
  generalize normL l = q at HN hX
  obtain ⟨a, y⟩ := q
  simp only at HN hX
  have HN := Aside0.mk HN
  have hbk := Aside0.mk (bl_alloc (Below.refl w.heap.size w) (.cells #[.bool false, .string ⟨#[]⟩, .int .i64 0] 24))
  have he2 := Aside0.mk (he.below hbk.out he.size)
  clear he
  by_cases hy : y = 0
  · rw [if_neg (fun h => h hy)] at hX
    rw [hX] at HS
    subst hy
    obtain ⟨⟨n, d, x⟩, z⟩ := X
    have HS := Aside0.mk (show ∀ w : World, Calls Tryz.prog 8 #[.string (B l)] w fun e w' => e = .returned (.tuple #[.agg #[.bool n, .string (B d), .int .i64 x], .int .i64 z]) ∧ Below w.heap.size w w' from HS)
    rename_i HS0 
    clear hX
    go_enter Tryz.func30, Tryz.ntmps30
    go_wp2_with (first
      | (go_at_call 10; (refine (HN.out _ he2.out).mono ?_); rintro e w2 ⟨rfl, hb2⟩; have hk2 := blk_below (heap_alloc_new w (.cells #[.bool false, .string ⟨#[]⟩, .int .i64 0] 24)) hb2)
      | (go_at_call 8; (with_reducible refine (HS.out _).mono ?_); rintro e w3 ⟨rfl, hb3⟩; have hk3 := blk_below hk2 hb3; obtain ⟨k0, k1, k2, z0, z1, z2⟩ := blk3 hk3))
    refine bodyPost_ret (results_ct rfl _ _ w.heap.size 24 #[.bool n, .string (B d), .int .i64 x] (0, 0) _ rfl (blk3_put hk3 _ _ _) Tryz.underlying24 rfl (by kernel_rfl)) rfl ?_
    exact ⟨rfl, below3 (bl_trans (bl_trans (bl_alloc (Below.refl _ _) _) hb2) hb3) _ _ _⟩
  · rw [if_pos hy] at hX
    subst hX
    have qy : (y != 0) = true := by simpa using hy
    clear HS
    go_enter Tryz.func30, Tryz.ntmps30
    go_wp2_with (first
      | (go_at_call 10; (refine (HN.out _ he2.out).mono ?_); rintro e w2 ⟨rfl, hb2⟩; have hk2 := blk_below (heap_alloc_new w (.cells #[.bool false, .string ⟨#[]⟩, .int .i64 0] 24)) hb2; obtain ⟨k0, k1, k2, z0, z1, z2⟩ := blk3 hk2))
    refine bodyPost_ret (results_ct rfl _ _ w.heap.size 24 (partsV (false, [], 0)) (0, 0) _ rfl (blk3_put hk2 _ _ _) Tryz.underlying24 rfl (by kernel_rfl)) rfl ?_
    exact ⟨rfl, below3 (bl_trans (bl_alloc (Below.refl _ _) _) hb2) _ _ _⟩
end Go.Proofs.YtjaongknagmfiaaGreatDoor
