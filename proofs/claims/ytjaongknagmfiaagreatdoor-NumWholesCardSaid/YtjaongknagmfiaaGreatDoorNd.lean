/-
  num.Split, walked. PRINTED by gen_nd.py.
-/
import Derived.Test.YtjaongknagmfiaaGreatDoorNc
set_option linter.unusedSimpArgs false
set_option linter.unusedVariables false
namespace Go.Proofs.YtjaongknagmfiaaGreatDoor
open Go.RowKit Go.Proofs.YtjaongknagmfiaaGreatDoorW.PrintWords Go.Proofs.YtjaongknagmfiaaGreatDoor.PT

theorem all_of_tw (l : List UInt8) (h : ¬ (l.takeWhile isD).length < l.length) : ∀ c ∈ l, isD c = true := by
  induction l with
  | nil => intro c hc; cases hc
  | cons a l ih =>
    cases ha : isD a with
    | false => rw [List.takeWhile_cons, ha] at h; simp at h
    | true =>
      rw [List.takeWhile_cons, ha] at h
      simp only [if_true, List.length_cons] at h
      intro c hc
      rcases List.mem_cons.1 hc with rfl | hc
      · exact ha
      · exact ih (by omega) c hc
theorem tw_all (l : List UInt8) : ∀ c ∈ l.takeWhile isD, isD c = true := by
  induction l with
  | nil => intro c hc; cases hc
  | cons a l ih =>
    intro c hc
    rw [List.takeWhile_cons] at hc
    cases ha : isD a with
    | false => rw [ha] at hc; cases hc
    | true =>
      rw [ha] at hc
      rcases List.mem_cons.1 hc with rfl | hc
      · exact ha
      · exact ih c hc
theorem cutE_ok {neg : Bool} {wh pt r : List UInt8} {x : Bool × List UInt8 × List UInt8 × List UInt8} (h : cutE neg wh pt r = some x) : x.1 = neg ∧ x.2.1 = wh ∧ x.2.2.1 = pt ∧ x.2.2.2.length ≤ r.length ∧ ∀ c ∈ expD x.2.2.2, isD c = true := by
  cases r with
  | nil => injection h with h; subst h; exact ⟨rfl, rfl, rfl, Nat.le_refl _, fun c hc => by cases hc⟩
  | cons c r =>
    rw [cutE_cons] at h
    by_cases h1 : c = 101 ∨ c = 69
    · rw [if_pos h1] at h
      have he : (if r.head? = some 45 ∨ r.head? = some 43 then r.tail else r) = expD r := rfl
      rw [he] at h
      by_cases h2 : expD r = [] ∨ ((expD r).takeWhile isD).length < (expD r).length
      · rw [if_pos h2] at h; cases h
      · rw [if_neg h2] at h
        injection h with h
        subst h
        exact ⟨rfl, rfl, rfl, by simp, all_of_tw _ (fun h3 => h2 (.inr h3))⟩
    · rw [if_neg h1] at h; cases h
theorem cutS_ok {neg : Bool} {s : List UInt8} {x : Bool × List UInt8 × List UInt8 × List UInt8} (h : cutS neg s = some x) : x.1 = neg ∧ (∀ c ∈ x.2.1, isD c = true) ∧ (∀ c ∈ x.2.2.1, isD c = true) ∧ (∀ c ∈ expD x.2.2.2, isD c = true) ∧ x.2.1.length ≤ s.length ∧ x.2.2.1.length ≤ s.length ∧ x.2.2.2.length ≤ s.length := by
  unfold cutS at h
  have hd : (s.dropWhile isD).length ≤ s.length := (List.dropWhile_sublist _).length_le
  by_cases h1 : (s.takeWhile isD).length = 0 ∨ (1 < (s.takeWhile isD).length ∧ s.head? = some 48)
  · rw [if_pos h1] at h; cases h
  · rw [if_neg h1] at h
    by_cases h2 : (s.dropWhile isD).head? = some 46
    · rw [if_pos h2] at h
      by_cases h3 : (((s.dropWhile isD).tail).takeWhile isD).length = 0
      · rw [if_pos h3] at h; cases h
      · rw [if_neg h3] at h
        obtain ⟨a1, a2, a3, a4, a5⟩ := cutE_ok h
        have t1 := tw_len isD (s.dropWhile isD).tail
        have t2 : (((s.dropWhile isD).tail).dropWhile isD).length ≤ (s.dropWhile isD).tail.length := (List.dropWhile_sublist _).length_le
        have t3 : (s.dropWhile isD).tail.length ≤ (s.dropWhile isD).length := by rw [List.length_tail]; omega
        exact ⟨a1, by rw [a2]; exact tw_all _, by rw [a3]; exact tw_all _, a5, by rw [a2]; exact tw_len _ _, by rw [a3]; omega, by omega⟩
    · rw [if_neg h2] at h
      obtain ⟨a1, a2, a3, a4, a5⟩ := cutE_ok h
      exact ⟨a1, by rw [a2]; exact tw_all _, by rw [a3]; exact (fun c hc => nomatch hc), a5, by rw [a2]; exact tw_len _ _, by rw [a3]; simp, by omega⟩
theorem cutL_ok {l : List UInt8} {n : Bool} {wh pt e : List UInt8} (h : cutL l = some (n, wh, pt, e)) : (∀ c ∈ wh, isD c = true) ∧ (∀ c ∈ pt, isD c = true) ∧ (∀ c ∈ expD e, isD c = true) ∧ wh.length ≤ l.length ∧ pt.length ≤ l.length ∧ e.length ≤ l.length := by
  unfold cutL at h
  split at h
  · have h1 := cutS_ok h
    have h2 : l.tail.length ≤ l.length := by rw [List.length_tail]; omega
    exact ⟨h1.2.1, h1.2.2.1, h1.2.2.2.1, Nat.le_trans h1.2.2.2.2.1 h2, Nat.le_trans h1.2.2.2.2.2.1 h2, Nat.le_trans h1.2.2.2.2.2.2 h2⟩
  · exact (cutS_ok h).2

theorem wrap64_id {n : Int} (h0 : -9223372036854775808 ≤ n) (h1 : n ≤ 9223372036854775807) : wrap64 n = n := by unfold wrap64; omega
/-- A literal's parts, and the number of its refusal. -/
def splitC (l : List UInt8) : Option (Bool × List UInt8 × List UInt8 × List UInt8) → (Bool × List UInt8 × Int) × Int
  | none => ((false, [], 0), 12)
  | some (n, wh, pt, e) => if 1000 < l.length then ((false, [], 0), 2) else
    match expN e with
    | none => ((false, [], 0), 5)
    | some x => if trimE 48 ((wh ++ pt).dropWhile (· == 48)) = [] then ((false, [], 0), 0)
      else ((n, trimE 48 ((wh ++ pt).dropWhile (· == 48)), x - (pt.length : Int) + ((((wh ++ pt).dropWhile (· == 48)).length : Int) - ((trimE 48 ((wh ++ pt).dropWhile (· == 48))).length : Int))), 0)
def splitL (l : List UInt8) : (Bool × List UInt8 × Int) × Int := splitC l (cutL l)
/-- Parts as a struct's cells. -/
def partsV (p : Bool × List UInt8 × Int) : Array Value := #[.bool p.1, .string (B p.2.1), .int .i64 p.2.2]
theorem tr_one (l : List UInt8) (hl : l.length ≤ 1000000) (w : World) : Calls Tryz.prog 22 #[.string (B l), .string ⟨#[48]⟩] w fun e w' => e = .returned (.string (B (trimE 48 l))) ∧ w' = w :=
  Tryz.strings_TrimRight_one (B l) 48 (by decide) w (by rw [B_size]; omega)
theorem blk3 {w : World} {b : Nat} {c0 c1 c2 : Value} {T : TypeId} (h : w.heap[b]? = some (.cells #[c0, c1, c2] T (0, 0))) : w.cell? ⟨b, 0, none⟩ = some c0 ∧ w.cell? ⟨b, 1, none⟩ = some c1 ∧ w.cell? ⟨b, 2, none⟩ = some c2 ∧ w.frozen? ⟨b, 0, none⟩ = false ∧ w.frozen? ⟨b, 1, none⟩ = false ∧ w.frozen? ⟨b, 2, none⟩ = false :=
  ⟨(Lib.cell_of_heap h 0).trans rfl, (Lib.cell_of_heap h 1).trans rfl, (Lib.cell_of_heap h 2).trans rfl, Lib.frozen_of_heap h 0, Lib.frozen_of_heap h 1, Lib.frozen_of_heap h 2⟩

theorem blk3_put {w : World} {b : Nat} {c0 c1 c2 : Value} {T : TypeId} (h : w.heap[b]? = some (.cells #[c0, c1, c2] T (0, 0))) (v0 v1 v2 : Value) : (((w.setCell ⟨b, 0, none⟩ v0).setCell ⟨b, 1, none⟩ v1).setCell ⟨b, 2, none⟩ v2).heap[b]? = some (.cells #[v0, v1, v2] T (0, 0)) :=
  blk_put (blk_put (blk_put h 0 v0 rfl) 1 v1 rfl) 2 v2 rfl
theorem below3 {a w : World} (h : Below a.heap.size a w) (v0 v1 v2 : Value) : Below a.heap.size a (((w.setCell ⟨a.heap.size, 0, none⟩ v0).setCell ⟨a.heap.size, 1, none⟩ v1).setCell ⟨a.heap.size, 2, none⟩ v2) :=
  bl_set (bl_set (bl_set h (p := ⟨a.heap.size, 0, none⟩) (Nat.le_refl _) v0) (p := ⟨a.heap.size, 1, none⟩) (Nat.le_refl _) v1) (p := ⟨a.heap.size, 2, none⟩) (Nat.le_refl _) v2

set_option maxHeartbeats 4000000 in
set_option maxRecDepth 100000 in
theorem split_any (l : List UInt8) (w : World) (hl : l.length ≤ 100000) : Calls Tryz.prog 8 #[.string (B l)] w fun e w' => e = .returned (.tuple #[.agg (partsV (splitL l).1), .int .i64 (splitL l).2]) ∧ Below w.heap.size w w' := by
  obtain ⟨X, hX⟩ : ∃ X, splitL l = X := ⟨_, rfl⟩
  rw [hX]
  unfold splitL at hX
  have HC := fun w => cut_any l w hl
  cases hc : cutL l with
  | none =>
    rw [hc] at hX HC
    have hX2 : X = ((false, [], 0), 12) := hX.symm
    subst hX2
    have HC := Aside0.mk (show ∀ w : World, Calls Tryz.prog 19 #[.string (B l)] w fun e w' => e = .returned (.tuple #[.bool false, .string ⟨#[]⟩, .string ⟨#[]⟩, .string ⟨#[]⟩, .bool false]) ∧ Drawn0 w w' from HC)
    rename_i HC0
    clear HC0 hX hc
    go_enter Tryz.func8, Tryz.ntmps8
    go_wp2_with (first
      | (go_at_call 19; (with_reducible refine (HC.out _).mono ?_); rintro e w1 ⟨rfl, ⟨nd, rfl⟩⟩))
    refine bodyPost_ret (results_ct rfl _ _ w.heap.size 24 (partsV (false, [], 0)) (0, 0) _ rfl (blk3_put (blk_drewN (heap_alloc_new w _) nd) _ _ _) Tryz.underlying24 rfl (by kernel_rfl)) rfl ?_
    exact ⟨rfl, below3 (bl_drewN (bl_alloc (Below.refl _ _) _) _) _ _ _⟩
  | some x =>
    obtain ⟨n, wh, pt, ex⟩ := x
    rw [hc] at hX HC
    obtain ⟨hwh, hpt, hex, lw, lp, le⟩ := cutL_ok hc
    have HC := Aside0.mk (show ∀ w : World, Calls Tryz.prog 19 #[.string (B l)] w fun e w' => e = .returned (.tuple #[.bool n, .string (B wh), .string (B pt), .string (B ex), .bool true]) ∧ Drawn0 w w' from HC)
    rename_i HC0
    clear HC0 hc
    unfold splitC at hX
    simp only at hX
    by_cases h1 : 1000 < l.length
    · rw [if_pos h1] at hX
      subst hX
      have q1 : ((1000 : Int) < ((B l).size : Int)) = True := eq_true (by rw [B_size]; omega)
      clear hex hwh hpt
      go_enter Tryz.func8, Tryz.ntmps8
      go_wp2_with (first
        | (go_at_call 19; (with_reducible refine (HC.out _).mono ?_); rintro e w1 ⟨rfl, ⟨nd, rfl⟩⟩))
      refine bodyPost_ret (results_ct rfl _ _ w.heap.size 24 (partsV (false, [], 0)) (0, 0) _ rfl (blk3_put (blk_drewN (heap_alloc_new w _) nd) _ _ _) Tryz.underlying24 rfl (by kernel_rfl)) rfl ?_
      exact ⟨rfl, below3 (bl_drewN (bl_alloc (Below.refl _ _) _) _) _ _ _⟩
    · rw [if_neg h1] at hX
      have q1 : ((1000 : Int) < ((B l).size : Int)) = False := eq_false (by rw [B_size]; omega)
      have HE := fun w => exponent_any ex w hex (by omega)
      cases hx : expN ex with
      | none =>
        rw [hx] at hX HE
        simp only at hX
        subst hX
        have HE := Aside0.mk (show ∀ w : World, Calls Tryz.prog 20 #[.string (B ex)] w fun e w' => e = .returned (.tuple #[.int .i64 0, .bool false]) ∧ Below w.heap.size w w' from HE)
        rename_i HE0
        clear HE0 hx hex hwh hpt
        go_enter Tryz.func8, Tryz.ntmps8
        go_wp2_with (first
          | (go_at_call 19; (with_reducible refine (HC.out _).mono ?_); rintro e w1 ⟨rfl, ⟨nd, rfl⟩⟩)
          | (go_at_call 20; (with_reducible refine (HE.out _).mono ?_); rintro e w2 ⟨rfl, hb2⟩; have hk2 := blk_below (blk_drewN (heap_alloc_new w (.cells #[.bool false, .string ⟨#[]⟩, .int .i64 0] 24)) nd) hb2; obtain ⟨k0, k1, k2, z0, z1, z2⟩ := blk3 hk2))
        refine bodyPost_ret (results_ct rfl _ _ w.heap.size 24 (partsV (false, [], 0)) (0, 0) _ rfl (blk3_put hk2 _ _ _) Tryz.underlying24 rfl (by kernel_rfl)) rfl ?_
        exact ⟨rfl, below3 (bl_trans (bl_drewN (bl_alloc (Below.refl _ _) _) _) hb2) _ _ _⟩
      | some v =>
        rw [hx] at hX HE
        simp only at hX
        have HE := Aside0.mk (show ∀ w : World, Calls Tryz.prog 20 #[.string (B ex)] w fun e w' => e = .returned (.tuple #[.int .i64 v, .bool true]) ∧ Below w.heap.size w w' from HE)
        have hv : -1000000 < v ∧ v < 1000000 := by
          unfold expN at hx
          split at hx
          · cases hx
          · rename_i h6
            injection hx with hx
            have hlt := decVal_lt ((expD ex).dropWhile (· == 48)) (fun c hc => hex c ((List.dropWhile_sublist _).subset hc)) 0
            have hp : 10 ^ ((expD ex).dropWhile (· == 48)).length ≤ 10 ^ 6 := Nat.pow_le_pow_right (by decide) (by omega)
            split at hx <;> omega
        obtain ⟨d, hd⟩ : ∃ d, (wh ++ pt).dropWhile (· == 48) = d := ⟨_, rfl⟩
        obtain ⟨t, ht⟩ : ∃ t, trimE 48 d = t := ⟨_, rfl⟩
        have hdl : d.length ≤ 200000 := by
          have : d.length ≤ (wh ++ pt).length := by rw [← hd]; exact (List.dropWhile_sublist _).length_le
          rw [List.length_append] at this; omega
        have htl : t.length ≤ d.length := by rw [← ht]; unfold trimE; rw [List.length_reverse]; exact Nat.le_trans (List.dropWhile_sublist _).length_le (by rw [List.length_reverse]; exact Nat.le_refl _)
        rw [hd, ht] at hX
        rename_i HE0
        have HD := Aside0.mk hd
        have HT := Aside0.mk ht
        have x1 : B wh ++ B pt = B (wh ++ pt) := B_app wh pt
        have s1 : ((B wh).size + (B pt).size ≤ 9223372036854775807) = True := eq_true (by rw [B_size, B_size]; omega)
        have s2 : (9223372036854775807 < (B wh).size + (B pt).size) = False := eq_false (by rw [B_size, B_size]; omega)
        have s3 : (9223372036854775807 < (B wh).size + pt.length) = False := eq_false (by rw [B_size]; omega)
        have s4 : ((B wh).size + pt.length ≤ 9223372036854775807) = True := eq_true (by rw [B_size]; omega)
        have z1 : (B pt).size = pt.length := rfl
        have z2 : (B d).size = d.length := rfl
        have z3 : (B t).size = t.length := rfl
        clear HE0 hx hex hwh hpt hd ht
        by_cases h0 : t = []
        · rw [if_pos h0] at hX
          subst hX
          have e1 : ((B t).toList == ([] : List UInt8)) = true := by rw [B_list]; simp [h0]
          clear h0
          go_enter Tryz.func8, Tryz.ntmps8
          go_wp2_with (first
            | (go_at_call 19; (with_reducible refine (HC.out _).mono ?_); rintro e w1 ⟨rfl, ⟨nd, rfl⟩⟩)
            | (go_at_call 20; (with_reducible refine (HE.out _).mono ?_); rintro e w2 ⟨rfl, hb2⟩; have hk2 := blk_below (blk_drewN (heap_alloc_new w (.cells #[.bool false, .string ⟨#[]⟩, .int .i64 0] 24)) nd) hb2; obtain ⟨k0, k1, k2, z0, z1', z2'⟩ := blk3 hk2)
            | (go_at_call 21; (with_reducible refine (tl_one (wh ++ pt) _).mono ?_); rintro e w3 ⟨rfl, rfl⟩; rw [HD.out])
            | (go_at_call 22; (with_reducible refine (tr_one d (by omega) _).mono ?_); rintro e w4 ⟨rfl, rfl⟩; rw [HT.out]))
          refine bodyPost_ret (results_ct rfl _ _ w.heap.size 24 (partsV (false, [], 0)) (0, 0) _ rfl (blk3_put hk2 _ _ _) Tryz.underlying24 rfl (by kernel_rfl)) rfl ?_
          exact ⟨rfl, below3 (bl_trans (bl_drewN (bl_alloc (Below.refl _ _) _) _) hb2) _ _ _⟩
        · rw [if_neg h0] at hX
          subst hX
          have e1 : ((B t).toList == ([] : List UInt8)) = false := by rw [B_list]; simpa using h0
          clear h0
          have i1 := wrap64_id (n := v - (pt.length : Int)) (by omega) (by omega)
          have i2 := wrap64_id (n := (d.length : Int) - (t.length : Int)) (by omega) (by omega)
          have i3 := wrap64_id (n := v - (pt.length : Int) + ((d.length : Int) - (t.length : Int))) (by omega) (by omega)
          go_enter Tryz.func8, Tryz.ntmps8
          go_wp2_with (first
            | (go_at_call 19; (with_reducible refine (HC.out _).mono ?_); rintro e w1 ⟨rfl, ⟨nd, rfl⟩⟩)
            | (go_at_call 20; (with_reducible refine (HE.out _).mono ?_); rintro e w2 ⟨rfl, hb2⟩; have hk2 := blk_below (blk_drewN (heap_alloc_new w (.cells #[.bool false, .string ⟨#[]⟩, .int .i64 0] 24)) nd) hb2; obtain ⟨k0, k1, k2, z0, z1', z2'⟩ := blk3 hk2)
            | (go_at_call 21; (with_reducible refine (tl_one (wh ++ pt) _).mono ?_); rintro e w3 ⟨rfl, rfl⟩; rw [HD.out])
            | (go_at_call 22; (with_reducible refine (tr_one d (by omega) _).mono ?_); rintro e w4 ⟨rfl, rfl⟩; rw [HT.out]))
          refine bodyPost_ret (results_ct rfl _ _ w.heap.size 24 (partsV (n, t, v - (pt.length : Int) + ((d.length : Int) - (t.length : Int)))) (0, 0) _ rfl (blk3_put hk2 _ _ _) Tryz.underlying24 rfl (by kernel_rfl)) rfl ?_
          exact ⟨rfl, below3 (bl_trans (bl_drewN (bl_alloc (Below.refl _ _) _) _) hb2) _ _ _⟩
end Go.Proofs.YtjaongknagmfiaaGreatDoor
