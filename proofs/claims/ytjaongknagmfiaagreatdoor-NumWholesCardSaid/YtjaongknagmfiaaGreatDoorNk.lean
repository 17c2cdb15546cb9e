/-
  num.Plain, walked. PRINTED by gen_nk.py.
-/
import Derived.Test.YtjaongknagmfiaaGreatDoorNj
import Derived.Test.YtjaongknagmfiaaGreatDoorWMore
import Derived.Deep.RegionHeld3
set_option linter.unusedSimpArgs false
set_option linter.unusedVariables false
namespace Go.Proofs.YtjaongknagmfiaaGreatDoor
open Go.RowKit Go.Proofs.YtjaongknagmfiaaGreatDoorW.PrintWords Go.Proofs.YtjaongknagmfiaaGreatDoorW.PrintMore Go.Proofs.YtjaongknagmfiaaGreatDoor.PT

/-- How many noughts stand beside a number's digits. -/
def plainM (n : Nat) (x : Int) : Nat := if 0 ≤ x then x.toNat else (1 - (n : Int) - x).toNat
/-- A number above 0, without an exponent. -/
def plainS (d : List UInt8) (x : Int) : List UInt8 :=
  if 0 ≤ x then d ++ List.replicate (plainM d.length x) 48
  else (List.replicate (plainM d.length x) 48 ++ d).take ((d.length : Int) + (plainM d.length x : Int) + x).toNat ++ 46 :: (List.replicate (plainM d.length x) 48 ++ d).drop ((d.length : Int) + (plainM d.length x : Int) + x).toNat
def signed (n : Bool) (l : List UInt8) : List UInt8 := if n = true then 45 :: l else l
def plainP (p : Bool × List UInt8 × Int) : List UInt8 × Int :=
  if p.2.1.length = 0 then ([48], 0) else if 1000 < p.2.1.length + plainM p.2.1.length p.2.2 then ([], 5)
  else if 1000 < (signed p.1 (plainS p.2.1 p.2.2)).length then ([], 5) else (signed p.1 (plainS p.2.1 p.2.2), 0)
/-- What num.Plain answers. -/
def plainL (l : List UInt8) : List UInt8 × Int := if (rightL l).2 ≠ 0 then ([], (rightL l).2) else plainP (rightL l).1
theorem rep_any (m : Nat) (h : m ≤ 100000000) (w : World) : Calls Tryz.prog 31 #[.string ⟨#[48]⟩, .int .i64 m] w fun e w' => e = .returned (.string (B (List.replicate m 48))) ∧ Below w.heap.size w w' := by
  have h1 := Tryz.strings_Repeat ⟨#[48]⟩ m w (by omega) (by show 1 * m ≤ _; omega)
  have h2 : Lib.repeatL (⟨#[48]⟩ : ByteArray).data.toList m = List.replicate m 48 := by
    show Lib.repeatL [48] m = _
    have := Lib.repeatL_replicate 48 1 m
    rw [Nat.mul_one] at this
    exact this
  rw [h2] at h1
  exact h1
theorem max3 (a b c v : Int) (h : max (max a b) c = v) (ats : Array TypeId) (ty : TypeId) : Builtin.max_ ats ty #[.int .i64 a, .int .i64 b, .int .i64 c] = pure (.int .i64 v) := by
  subst h
  rw [max_three, max2_int]
  show Builtin.max2 (.int .i64 (if a < b then b else a)) (.int .i64 c) >>= _ = _
  rw [max2_int]
  show (pure _ : Sem Value) = _
  congr 2
  repeat' split
  all_goals omega
/-- What the regions of Plain keep: the number's parts. -/
structure PK (w : World) (b : Nat) (n : Bool) (d : List UInt8) (x : Int) (wx : World) : Prop where
  blk : wx.heap[b]? = some (.cells #[.bool n, .string (B d), .int .i64 x] 24 (0, 0))
  below : Below w.heap.size w wx
  lt : b < wx.heap.size
theorem PK.new {w w1 : World} (h : Below w.heap.size w w1) (n : Bool) (d : List UInt8) (x : Int) : PK w w1.heap.size n d x (w1.alloc (.cells #[.bool n, .string (B d), .int .i64 x] 24)) where
  blk := heap_alloc_new w1 _
  below := bl_alloc h _
  lt := by simp
theorem PK.next {w w1 w2 : World} {b : Nat} {n : Bool} {d : List UInt8} {x : Int} (h : PK w b n d x w1) (hb : Below w1.heap.size w1 w2) : PK w b n d x w2 where
  blk := blk_below h.blk hb
  below := bl_trans h.below hb
  lt := Nat.lt_of_lt_of_le h.lt hb.size
theorem PK.drewN {w w1 : World} {b : Nat} {n : Bool} {d : List UInt8} {x : Int} (h : PK w b n d x w1) (k : Nat) : PK w b n d x (w1.drewN k) := h.next (bl_drewN (Below.refl _ _) k)
theorem PK.drew {w w1 : World} {b : Nat} {n : Bool} {d : List UInt8} {x : Int} (h : PK w b n d x w1) : PK w b n d x w1.drew := h.next (bl_drew (Below.refl _ _))
theorem PK.c0 {w w1 : World} {b : Nat} {n : Bool} {d : List UInt8} {x : Int} (h : PK w b n d x w1) : w1.cell? ⟨b, 0, none⟩ = some (.bool n) := (blk3 h.blk).1
theorem PK.c1 {w w1 : World} {b : Nat} {n : Bool} {d : List UInt8} {x : Int} (h : PK w b n d x w1) : w1.cell? ⟨b, 1, none⟩ = some (.string (B d)) := (blk3 h.blk).2.1
theorem PK.c2 {w w1 : World} {b : Nat} {n : Bool} {d : List UInt8} {x : Int} (h : PK w b n d x w1) : w1.cell? ⟨b, 2, none⟩ = some (.int .i64 x) := (blk3 h.blk).2.2.1

set_option maxHeartbeats 4000000 in
set_option maxRecDepth 100000 in
theorem plain_any (l : List UInt8) (w : World) (hl : l.length ≤ 50000) (he : Env w) : Calls Tryz.prog 13 #[.string (B l)] w fun e w' => e = .returned (.tuple #[.string (B (plainL l).1), .int .i64 (plainL l).2]) ∧ Below w.heap.size w w' := by
  have HA := fun (w : World) (he : Env w) => right_any l w hl he
  have ra := rightL_bounds l hl
  obtain ⟨X, hX⟩ : ∃ X, plainL l = X := ⟨_, rfl⟩
  rw [hX]
  unfold plainL at hX
  generalize rightL l = p at HA ra hX
  obtain ⟨⟨n, d, x⟩, y⟩ := p
  simp only at HA ra hX
  have HA := Aside0.mk (show ∀ w : World, Env w → Calls Tryz.prog 30 #[.string (B l)] w fun e w' => e = .returned (.tuple #[.agg #[.bool n, .string (B d), .int .i64 x], .int .i64 y]) ∧ Below w.heap.size w w' from HA)
  obtain ⟨rd, rx⟩ := ra
  have HE := Aside0.mk he
  have z1 : (B d).size = d.length := rfl
  clear he
  by_cases hy : y = 0
  · rw [if_neg (fun h => h hy)] at hX
    subst hy
    unfold plainP at hX
    simp only at hX
    by_cases h0 : d.length = 0
    · rw [if_pos h0] at hX
      subst hX
      have e0 : ((d.length : Int) == 0) = true := by simp [h0]
      clear h0
      have hmax := max3 x 0 (1 - (d.length : Int) - x) _ rfl
      by_cases hx : 0 ≤ x
      · go_enter Tryz.func13, Tryz.ntmps13
        go_wp2_with (first
          | (go_at_call 30; (with_reducible refine (HA.out _ HE.out).mono ?_); rintro e w1 ⟨rfl, hb1⟩; have hk1 := heap_alloc_new w1 (.cells #[.bool n, .string (B d), .int .i64 x] 24); obtain ⟨k0, k1, k2, z0, z1', z2⟩ := blk3 hk1; have hp1 := Aside0.mk (PK.new hb1 n d x)))
        go_ret2
        exact ⟨rfl, hp1.out.below⟩
      · go_enter Tryz.func13, Tryz.ntmps13
        go_wp2_with (first
          | (go_at_call 30; (with_reducible refine (HA.out _ HE.out).mono ?_); rintro e w1 ⟨rfl, hb1⟩; have hk1 := heap_alloc_new w1 (.cells #[.bool n, .string (B d), .int .i64 x] 24); obtain ⟨k0, k1, k2, z0, z1', z2⟩ := blk3 hk1; have hp1 := Aside0.mk (PK.new hb1 n d x)))
        go_ret2
        exact ⟨rfl, hp1.out.below⟩
    · rw [if_neg h0] at hX
      have e0 : ((d.length : Int) == 0) = false := beq_eq_false_iff_ne.mpr (by omega)
      have hd0 : 0 < d.length := by omega
      by_cases hx : 0 ≤ x
      · obtain ⟨m, rfl⟩ : ∃ m : Nat, x = (m : Int) := ⟨x.toNat, by omega⟩
        have hm : plainM d.length (m : Int) = m := by unfold plainM; rw [if_pos hx]; omega
        have hS : plainS d (m : Int) = d ++ List.replicate m 48 := by unfold plainS; rw [if_pos hx, hm]
        rw [hm, hS] at hX
        clear hm hS h0
        have hmax := max3 (m : Int) 0 (1 - (d.length : Int) - (m : Int)) _ rfl
        by_cases hb : 1000 < d.length + m
        · rw [if_pos hb] at hX
          subst hX
          go_enter Tryz.func13, Tryz.ntmps13
          go_wp2_with (first
            | (go_at_call 30; (with_reducible refine (HA.out _ HE.out).mono ?_); rintro e w1 ⟨rfl, hb1⟩; have hk1 := heap_alloc_new w1 (.cells #[.bool n, .string (B d), .int .i64 (m : Int)] 24); obtain ⟨k0, k1, k2, z0, z1', z2⟩ := blk3 hk1; have hp1 := Aside0.mk (PK.new hb1 n d (m : Int))))
          go_ret2
          exact ⟨rfl, hp1.out.below⟩
        · rw [if_neg hb] at hX
          obtain ⟨S, hS⟩ : ∃ S, d ++ List.replicate m 48 = S := ⟨_, rfl⟩
          have hSl : S.length ≤ 1000 := by rw [← hS, List.length_append, List.length_replicate]; omega
          have s1 : B d ++ B (List.replicate m 48) = B S := by rw [B_app, hS]
          have s2 : (B (List.replicate m 48)).size = m := by rw [B_size, List.length_replicate]
          have s3 : (9223372036854775807 < d.length + m) = False := eq_false (by omega)
          rw [hS] at hX
          have HX := Aside0.mk hX
          clear hX hS
          cases n with
          | true =>
            obtain ⟨T, hT⟩ : ∃ T, 45 :: S = T := ⟨_, rfl⟩
            have t1 : T.length ≤ 2000 := by rw [← hT, List.length_cons]; omega
            have t2 : (B T).size = T.length := rfl
            have t3 : (⟨#[45]⟩ : ByteArray) ++ B S = B T := by rw [← hT]; exact B_app [45] S
            have t4 : (9223372036854775807 < 1 + S.length) = False := eq_false (by omega)
            have t5 : (1 + S.length ≤ 9223372036854775807) = True := eq_true (by omega)
            have t7 : (B S).size = S.length := rfl
            have hX := HX.out
            rw [show signed true S = T from hT] at hX
            clear hT
            by_cases hl : 1000 < T.length
            · rw [if_pos hl] at hX
              subst hX
              have t6 : ((1000 : Int) < (T.length : Int)) = True := eq_true (by omega)
              go_enter Tryz.func13, Tryz.ntmps13
              go_upto_region 12 with (first
                | (go_at_call 30; (with_reducible refine (HA.out _ HE.out).mono ?_); rintro e w1 ⟨rfl, hb1⟩; have hk1 := heap_alloc_new w1 (.cells #[.bool true, .string (B d), .int .i64 (m : Int)] 24); obtain ⟨k0, k1, k2, z0, z1', z2⟩ := blk3 hk1; have hp1 := Aside0.mk (PK.new hb1 true d (m : Int))))
              go_region_held3 (fun w' => w'.cell? ⟨w1.heap.size, 1, none⟩ = some (.string (B d)) ∧ PK w w1.heap.size true d (m : Int) w')
                ((refine ⟨PK.c1 ?h, ?h⟩; repeat (first | exact hp2.out | exact hp1.out | refine PK.drew ?_ | refine PK.drewN ?_ _ | refine PK.next ?_ (by assumption) | assumption)))
                (first | (go_at_call 31; refine (rep_any m (by omega) _).mono ?_; rintro e w2 ⟨rfl, hb2⟩; have hp2 := Aside0.mk (PK.next (by first | exact hp1.out | exact hp1.out.drew | exact hp1.out.drewN _) hb2); have k20 := hp2.out.c0; have k22 := hp2.out.c2))
              all_goals (go_wp2; go_ret2; exact ⟨rfl, hp2.out.below⟩)
            · rw [if_neg hl] at hX
              subst hX
              have t6 : ((1000 : Int) < (T.length : Int)) = False := eq_false (by omega)
              go_enter Tryz.func13, Tryz.ntmps13
              go_upto_region 12 with (first
                | (go_at_call 30; (with_reducible refine (HA.out _ HE.out).mono ?_); rintro e w1 ⟨rfl, hb1⟩; have hk1 := heap_alloc_new w1 (.cells #[.bool true, .string (B d), .int .i64 (m : Int)] 24); obtain ⟨k0, k1, k2, z0, z1', z2⟩ := blk3 hk1; have hp1 := Aside0.mk (PK.new hb1 true d (m : Int))))
              go_region_held3 (fun w' => w'.cell? ⟨w1.heap.size, 1, none⟩ = some (.string (B d)) ∧ PK w w1.heap.size true d (m : Int) w')
                ((refine ⟨PK.c1 ?h, ?h⟩; repeat (first | exact hp2.out | exact hp1.out | refine PK.drew ?_ | refine PK.drewN ?_ _ | refine PK.next ?_ (by assumption) | assumption)))
                (first | (go_at_call 31; refine (rep_any m (by omega) _).mono ?_; rintro e w2 ⟨rfl, hb2⟩; have hp2 := Aside0.mk (PK.next (by first | exact hp1.out | exact hp1.out.drew | exact hp1.out.drewN _) hb2); have k20 := hp2.out.c0; have k22 := hp2.out.c2))
              all_goals (go_wp2; go_ret2; exact ⟨rfl, hp2.out.below⟩)
          | false =>
            have t2 : (B S).size = S.length := rfl
            have hX := HX.out
            rw [show signed false S = S from rfl] at hX
            by_cases hl : 1000 < S.length
            · omega
            · rw [if_neg hl] at hX
              subst hX
              have t6 : ((1000 : Int) < (S.length : Int)) = False := eq_false (by omega)
              go_enter Tryz.func13, Tryz.ntmps13
              go_upto_region 12 with (first
                | (go_at_call 30; (with_reducible refine (HA.out _ HE.out).mono ?_); rintro e w1 ⟨rfl, hb1⟩; have hk1 := heap_alloc_new w1 (.cells #[.bool false, .string (B d), .int .i64 (m : Int)] 24); obtain ⟨k0, k1, k2, z0, z1', z2⟩ := blk3 hk1; have hp1 := Aside0.mk (PK.new hb1 false d (m : Int))))
              go_region_held3 (fun w' => w'.cell? ⟨w1.heap.size, 1, none⟩ = some (.string (B d)) ∧ PK w w1.heap.size false d (m : Int) w')
                ((refine ⟨PK.c1 ?h, ?h⟩; repeat (first | exact hp2.out | exact hp1.out | refine PK.drew ?_ | refine PK.drewN ?_ _ | refine PK.next ?_ (by assumption) | assumption)))
                (first | (go_at_call 31; refine (rep_any m (by omega) _).mono ?_; rintro e w2 ⟨rfl, hb2⟩; have hp2 := Aside0.mk (PK.next (by first | exact hp1.out | exact hp1.out.drew | exact hp1.out.drewN _) hb2); have k20 := hp2.out.c0; have k22 := hp2.out.c2))
              all_goals (go_wp2; go_ret2; exact ⟨rfl, hp2.out.below⟩)
      · have hm : plainM d.length x = (1 - (d.length : Int) - x).toNat := by unfold plainM; rw [if_neg hx]
        have hS : plainS d x = (List.replicate (plainM d.length x) 48 ++ d).take ((d.length : Int) + (plainM d.length x : Int) + x).toNat ++ 46 :: (List.replicate (plainM d.length x) 48 ++ d).drop ((d.length : Int) + (plainM d.length x : Int) + x).toNat := by unfold plainS; rw [if_neg hx]
        obtain ⟨m, hm2⟩ : ∃ m, plainM d.length x = m := ⟨_, rfl⟩
        rw [hm2] at hX hS hm
        rw [hS] at hX
        clear hS hm2 h0
        have hmax := max3 x 0 (1 - (d.length : Int) - x) (m : Int) (by omega)
        have hmb : m ≤ 3000000 := by omega
        obtain ⟨k, hk⟩ : ∃ k, ((d.length : Int) + (m : Int) + x).toNat = k := ⟨_, rfl⟩
        have hk1 : 1 ≤ k ∧ k ≤ d.length + m ∧ (d.length : Int) + (m : Int) + x = (k : Int) := by omega
        rw [hk] at hX
        obtain ⟨hk1, hk2, hk3⟩ := hk1
        obtain ⟨S0, hS0⟩ : ∃ S0, List.replicate m 48 ++ d = S0 := ⟨_, rfl⟩
        have hS0l : S0.length = d.length + m := by rw [← hS0, List.length_append, List.length_replicate]; omega
        rw [hS0] at hX
        have s1 : B (List.replicate m 48) ++ B d = B S0 := by rw [B_app, hS0]
        have s2 : (B (List.replicate m 48)).size = m := by rw [B_size, List.length_replicate]
        have s3 : (9223372036854775807 < m + d.length) = False := eq_false (by omega)
        have s4 : (B S0).size = S0.length := rfl
        obtain ⟨S1, hS1⟩ : ∃ S1, S0.take k = S1 := ⟨_, rfl⟩
        obtain ⟨S2, hS2⟩ : ∃ S2, S0.drop k = S2 := ⟨_, rfl⟩
        have hS1l : S1.length = k := by rw [← hS1, List.length_take]; omega
        have hS2l : S2.length = S0.length - k := by rw [← hS2, List.length_drop]
        rw [hS1, hS2] at hX
        have s5 : (B S0).extract 0 k = B S1 := by rw [B_head, hS1]
        have s6 : (B S0).extract k S0.length = B S2 := by
          have := B_tail S0 k
          rw [hS2] at this
          exact this
        have s7 : B S1 ++ (⟨#[46]⟩ : ByteArray) = B (S1 ++ [46]) := B_app S1 [46]
        obtain ⟨S3, hS3⟩ : ∃ S3, S1 ++ [46] = S3 := ⟨_, rfl⟩
        have hS3l : S3.length = k + 1 := by rw [← hS3, List.length_append, hS1l]; rfl
        rw [hS3] at s7
        obtain ⟨S, hS⟩ : ∃ S, S1 ++ 46 :: S2 = S := ⟨_, rfl⟩
        have hSl : S.length = S0.length + 1 := by rw [← hS, List.length_append, List.length_cons]; omega
        have s8 : B S3 ++ B S2 = B S := by rw [B_app, ← hS3, ← hS]; simp
        rw [hS] at hX
        have y1 : (B S1).size = S1.length := rfl
        have y2 : (B S2).size = S2.length := rfl
        have y3 : (B S3).size = S3.length := rfl
        by_cases hb : 1000 < d.length + m
        · rw [if_pos hb] at hX
          subst hX
          clear hS0 hS1 hS2 hS3 hS hk s1 s2 s3 s5 s6 s7 s8 hk3 hS0l hS1l hS2l hS3l hSl hm
          go_enter Tryz.func13, Tryz.ntmps13
          go_wp2_with (first
            | (go_at_call 30; (with_reducible refine (HA.out _ HE.out).mono ?_); rintro e w1 ⟨rfl, hb1⟩; have hk1 := heap_alloc_new w1 (.cells #[.bool n, .string (B d), .int .i64 x] 24); obtain ⟨k0, k1, k2, z0, z1', z2⟩ := blk3 hk1; have hp1 := Aside0.mk (PK.new hb1 n d x)))
          go_ret2
          exact ⟨rfl, hp1.out.below⟩
        · rw [if_neg hb] at hX
          have HX := Aside0.mk hX
          clear hX hS0 hS1 hS2 hS3 hS hk
          have v3 : (9223372036854775807 < d.length + m) = False := eq_false (by omega)
          have u1 : (S0.length : Int) + x = (k : Int) := by omega
          have u2 : ((k : Int) ≤ (S0.length : Int)) = True := eq_true (by omega)
          have u3 : (9223372036854775807 < S1.length + 1) = False := eq_false (by omega)
          have u4 : (9223372036854775807 < S3.length + S2.length) = False := eq_false (by omega)
          have hSb : S.length ≤ 1500 := by omega
          clear hk3 hS0l hS1l hS2l hS3l hSl hm
          cases n with
          | true =>
            obtain ⟨T, hT⟩ : ∃ T, 45 :: S = T := ⟨_, rfl⟩
            have t1 : T.length ≤ 2000 := by rw [← hT, List.length_cons]; omega
            have t2 : (B T).size = T.length := rfl
            have t3 : (⟨#[45]⟩ : ByteArray) ++ B S = B T := by rw [← hT]; exact B_app [45] S
            have t4 : (9223372036854775807 < 1 + S.length) = False := eq_false (by omega)
            have t5 : (1 + S.length ≤ 9223372036854775807) = True := eq_true (by omega)
            have t7 : (B S).size = S.length := rfl
            have hX := HX.out
            rw [show signed true S = T from hT] at hX
            clear hT
            by_cases hl : 1000 < T.length
            · rw [if_pos hl] at hX
              subst hX
              have t6 : ((1000 : Int) < (T.length : Int)) = True := eq_true (by omega)
              go_enter Tryz.func13, Tryz.ntmps13
              go_upto_region 12 with (first
                | (go_at_call 30; (with_reducible refine (HA.out _ HE.out).mono ?_); rintro e w1 ⟨rfl, hb1⟩; have hk1 := heap_alloc_new w1 (.cells #[.bool true, .string (B d), .int .i64 x] 24); obtain ⟨k0, k1, k2, z0, z1', z2⟩ := blk3 hk1; have hp1 := Aside0.mk (PK.new hb1 true d x)))
              go_region_held3 (fun w' => w'.cell? ⟨w1.heap.size, 1, none⟩ = some (.string (B d)) ∧ PK w w1.heap.size true d x w')
                ((refine ⟨PK.c1 ?h, ?h⟩; repeat (first | exact hp2.out | exact hp1.out | refine PK.drew ?_ | refine PK.drewN ?_ _ | refine PK.next ?_ (by assumption) | assumption)))
                (first | (go_at_call 31; refine (rep_any m (by omega) _).mono ?_; rintro e w2 ⟨rfl, hb2⟩; have hp2 := Aside0.mk (PK.next (by first | exact hp1.out | exact hp1.out.drew | exact hp1.out.drewN _) hb2); have k20 := hp2.out.c0; have k21 := hp2.out.c1; have k22 := hp2.out.c2))
              go_upto_region 14 with fail
              go_region_held3 (fun w' => w'.cell? ⟨w1.heap.size, 1, none⟩ = some (.string (B d)) ∧ PK w w1.heap.size true d x w')
                ((refine ⟨PK.c1 ?h, ?h⟩; repeat (first | exact hp3.out | exact hp2.out | refine PK.drew ?_ | refine PK.drewN ?_ _ | refine PK.next ?_ (by assumption) | assumption)))
                (first | (go_at_call 31; refine (rep_any m (by omega) _).mono ?_; rintro e w3 ⟨rfl, hb3⟩; have hp3 := Aside0.mk (PK.next (by first | exact hp2.out | exact hp2.out.drew | exact hp2.out.drewN _) hb3); have k30 := hp3.out.c0; have k31 := hp3.out.c1; have k32 := hp3.out.c2))
              go_wp2
              go_quiet (fail)
              all_goals (go_wp2; go_ret2; exact ⟨rfl, bl_drewN hp3.out.below _⟩)
            · rw [if_neg hl] at hX
              subst hX
              have t6 : ((1000 : Int) < (T.length : Int)) = False := eq_false (by omega)
              go_enter Tryz.func13, Tryz.ntmps13
              go_upto_region 12 with (first
                | (go_at_call 30; (with_reducible refine (HA.out _ HE.out).mono ?_); rintro e w1 ⟨rfl, hb1⟩; have hk1 := heap_alloc_new w1 (.cells #[.bool true, .string (B d), .int .i64 x] 24); obtain ⟨k0, k1, k2, z0, z1', z2⟩ := blk3 hk1; have hp1 := Aside0.mk (PK.new hb1 true d x)))
              go_region_held3 (fun w' => w'.cell? ⟨w1.heap.size, 1, none⟩ = some (.string (B d)) ∧ PK w w1.heap.size true d x w')
                ((refine ⟨PK.c1 ?h, ?h⟩; repeat (first | exact hp2.out | exact hp1.out | refine PK.drew ?_ | refine PK.drewN ?_ _ | refine PK.next ?_ (by assumption) | assumption)))
                (first | (go_at_call 31; refine (rep_any m (by omega) _).mono ?_; rintro e w2 ⟨rfl, hb2⟩; have hp2 := Aside0.mk (PK.next (by first | exact hp1.out | exact hp1.out.drew | exact hp1.out.drewN _) hb2); have k20 := hp2.out.c0; have k21 := hp2.out.c1; have k22 := hp2.out.c2))
              go_upto_region 14 with fail
              go_region_held3 (fun w' => w'.cell? ⟨w1.heap.size, 1, none⟩ = some (.string (B d)) ∧ PK w w1.heap.size true d x w')
                ((refine ⟨PK.c1 ?h, ?h⟩; repeat (first | exact hp3.out | exact hp2.out | refine PK.drew ?_ | refine PK.drewN ?_ _ | refine PK.next ?_ (by assumption) | assumption)))
                (first | (go_at_call 31; refine (rep_any m (by omega) _).mono ?_; rintro e w3 ⟨rfl, hb3⟩; have hp3 := Aside0.mk (PK.next (by first | exact hp2.out | exact hp2.out.drew | exact hp2.out.drewN _) hb3); have k30 := hp3.out.c0; have k31 := hp3.out.c1; have k32 := hp3.out.c2))
              go_wp2
              go_quiet (fail)
              all_goals (go_wp2; go_ret2; exact ⟨rfl, bl_drewN hp3.out.below _⟩)
          | false =>
            have t2 : (B S).size = S.length := rfl
            have hX := HX.out
            rw [show signed false S = S from rfl] at hX
            by_cases hl : 1000 < S.length
            · rw [if_pos hl] at hX
              subst hX
              have t6 : ((1000 : Int) < (S.length : Int)) = True := eq_true (by omega)
              go_enter Tryz.func13, Tryz.ntmps13
              go_upto_region 12 with (first
                | (go_at_call 30; (with_reducible refine (HA.out _ HE.out).mono ?_); rintro e w1 ⟨rfl, hb1⟩; have hk1 := heap_alloc_new w1 (.cells #[.bool false, .string (B d), .int .i64 x] 24); obtain ⟨k0, k1, k2, z0, z1', z2⟩ := blk3 hk1; have hp1 := Aside0.mk (PK.new hb1 false d x)))
              go_region_held3 (fun w' => w'.cell? ⟨w1.heap.size, 1, none⟩ = some (.string (B d)) ∧ PK w w1.heap.size false d x w')
                ((refine ⟨PK.c1 ?h, ?h⟩; repeat (first | exact hp2.out | exact hp1.out | refine PK.drew ?_ | refine PK.drewN ?_ _ | refine PK.next ?_ (by assumption) | assumption)))
                (first | (go_at_call 31; refine (rep_any m (by omega) _).mono ?_; rintro e w2 ⟨rfl, hb2⟩; have hp2 := Aside0.mk (PK.next (by first | exact hp1.out | exact hp1.out.drew | exact hp1.out.drewN _) hb2); have k20 := hp2.out.c0; have k21 := hp2.out.c1; have k22 := hp2.out.c2))
              go_upto_region 14 with fail
              go_region_held3 (fun w' => w'.cell? ⟨w1.heap.size, 1, none⟩ = some (.string (B d)) ∧ PK w w1.heap.size false d x w')
                ((refine ⟨PK.c1 ?h, ?h⟩; repeat (first | exact hp3.out | exact hp2.out | refine PK.drew ?_ | refine PK.drewN ?_ _ | refine PK.next ?_ (by assumption) | assumption)))
                (first | (go_at_call 31; refine (rep_any m (by omega) _).mono ?_; rintro e w3 ⟨rfl, hb3⟩; have hp3 := Aside0.mk (PK.next (by first | exact hp2.out | exact hp2.out.drew | exact hp2.out.drewN _) hb3); have k30 := hp3.out.c0; have k31 := hp3.out.c1; have k32 := hp3.out.c2))
              go_wp2
              go_quiet (fail)
              all_goals (go_wp2; go_ret2; exact ⟨rfl, bl_drewN hp3.out.below _⟩)
            · rw [if_neg hl] at hX
              subst hX
              have t6 : ((1000 : Int) < (S.length : Int)) = False := eq_false (by omega)
              go_enter Tryz.func13, Tryz.ntmps13
              go_upto_region 12 with (first
                | (go_at_call 30; (with_reducible refine (HA.out _ HE.out).mono ?_); rintro e w1 ⟨rfl, hb1⟩; have hk1 := heap_alloc_new w1 (.cells #[.bool false, .string (B d), .int .i64 x] 24); obtain ⟨k0, k1, k2, z0, z1', z2⟩ := blk3 hk1; have hp1 := Aside0.mk (PK.new hb1 false d x)))
              go_region_held3 (fun w' => w'.cell? ⟨w1.heap.size, 1, none⟩ = some (.string (B d)) ∧ PK w w1.heap.size false d x w')
                ((refine ⟨PK.c1 ?h, ?h⟩; repeat (first | exact hp2.out | exact hp1.out | refine PK.drew ?_ | refine PK.drewN ?_ _ | refine PK.next ?_ (by assumption) | assumption)))
                (first | (go_at_call 31; refine (rep_any m (by omega) _).mono ?_; rintro e w2 ⟨rfl, hb2⟩; have hp2 := Aside0.mk (PK.next (by first | exact hp1.out | exact hp1.out.drew | exact hp1.out.drewN _) hb2); have k20 := hp2.out.c0; have k21 := hp2.out.c1; have k22 := hp2.out.c2))
              go_upto_region 14 with fail
              go_region_held3 (fun w' => w'.cell? ⟨w1.heap.size, 1, none⟩ = some (.string (B d)) ∧ PK w w1.heap.size false d x w')
                ((refine ⟨PK.c1 ?h, ?h⟩; repeat (first | exact hp3.out | exact hp2.out | refine PK.drew ?_ | refine PK.drewN ?_ _ | refine PK.next ?_ (by assumption) | assumption)))
                (first | (go_at_call 31; refine (rep_any m (by omega) _).mono ?_; rintro e w3 ⟨rfl, hb3⟩; have hp3 := Aside0.mk (PK.next (by first | exact hp2.out | exact hp2.out.drew | exact hp2.out.drewN _) hb3); have k30 := hp3.out.c0; have k31 := hp3.out.c1; have k32 := hp3.out.c2))
              go_wp2
              go_quiet (fail)
              all_goals (go_wp2; go_ret2; exact ⟨rfl, bl_drewN hp3.out.below _⟩)
  · rw [if_pos hy] at hX
    subst hX
    have qy : (y != 0) = true := by simpa using hy
    go_enter Tryz.func13, Tryz.ntmps13
    go_wp2_with (first
      | (go_at_call 30; (with_reducible refine (HA.out _ HE.out).mono ?_); rintro e w1 ⟨rfl, hb1⟩))
    go_ret2
    exact ⟨rfl, bl_alloc hb1 _⟩
end Go.Proofs.YtjaongknagmfiaaGreatDoor
