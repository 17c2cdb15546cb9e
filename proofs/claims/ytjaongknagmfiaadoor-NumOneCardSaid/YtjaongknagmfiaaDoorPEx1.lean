-- PRINTED by print.py (a twelfth state) out of the translation. Not trusted: Lean checks it.
import Derived.Test.YtjaongknagmfiaaDoorPEx0
namespace Go.Proofs.YtjaongknagmfiaaDoor.PE
open Go.RowKit Go.Proofs.YtjaongknagmfiaaDoorW.PrintWords Go.Proofs.YtjaongknagmfiaaDoorW.PrintLast Go.Proofs.YtjaongknagmfiaaDoorW.PrintMore
attribute [local go_sem] max2_int min2_int max_two min_two max_three min_three max_four min_four   -- for this text's walks alone
set_option linter.unusedVariables false
set_option linter.unusedSimpArgs false

/-! ### emendlaw2_NumRuns: function 3 -/
def emendlaw2_NumRuns.f : Option Bool := some true
theorem emendlaw2_NumRuns.calls (r : Bool) (w : World) (he : Env w) (h : emendlaw2_NumRuns.f = some r) : Calls Tryd.prog 3 #[] w fun e w' => e = .returned (.bool r) ∧ Below w.heap.size w w' := by
  injection h with h
  subst h
  exact runs_true w he

/-! ### num_Plain: function 13 -/
def num_Plain.f (a0 : ByteArray) : Option (ByteArray × Int) := if a0.size ≤ 50000 then some (B (plainL a0.data.toList).1, (plainL a0.data.toList).2) else none
theorem num_Plain.calls (a0 : ByteArray) (r1 : ByteArray) (r2 : Int) (w : World) (he : Env w) (h : num_Plain.f a0 = some (r1, r2)) : Calls Tryd.prog 13 #[.string a0] w fun e w' => e = .returned (.tuple #[.string r1, .int .i64 r2]) ∧ Below w.heap.size w w' := by
  unfold num_Plain.f at h
  split at h
  · rename_i hb
    obtain ⟨rfl, rfl⟩ := Prod.mk.inj (Option.some.inj h)
    have h1 := plain_any a0.data.toList w (by have e : a0.data.toList.length = a0.size := rfl; omega) he
    simp only [B_of] at h1
    exact h1
  · cases h

/-! ### num_Compare: function 15 -/
def num_Compare.f (a0 a1 : ByteArray) : Option (Int × Int) := if a0.size ≤ 50000 ∧ a1.size ≤ 50000 then some ((cmpL a0.data.toList a1.data.toList).1, (cmpL a0.data.toList a1.data.toList).2) else none
theorem num_Compare.calls (a0 a1 : ByteArray) (r1 : Int) (r2 : Int) (w : World) (he : Env w) (h : num_Compare.f a0 a1 = some (r1, r2)) : Calls Tryd.prog 15 #[.string a0, .string a1] w fun e w' => e = .returned (.tuple #[.int .i64 r1, .int .i64 r2]) ∧ Below w.heap.size w w' := by
  unfold num_Compare.f at h
  split at h
  · rename_i hb
    obtain ⟨rfl, rfl⟩ := Prod.mk.inj (Option.some.inj h)
    have h1 := compare_any a0.data.toList a1.data.toList w (by have e : a0.data.toList.length = a0.size := rfl; omega) (by have e : a1.data.toList.length = a1.size := rfl; omega) he
    simp only [B_of] at h1
    exact h1
  · cases h

/-! ### emendlaw2_few: function 18 -/
def emendlaw2_few.f (a0 : ByteArray) (a1 : Int) : Option (ByteArray) := if (a0.size : Int) > a1 then (if 0 ≤ a1 then (if a1 ≤ (a0.size : Int) then (some (a0.extract 0 (a1 : Int).toNat)) else (none)) else (none)) else (some a0)
set_option maxHeartbeats 8000000 in
set_option maxRecDepth 100000 in
theorem emendlaw2_few.calls (a0 : ByteArray) (a1 : Int) (r : ByteArray) (w : World) (h : emendlaw2_few.f a0 a1 = some r) :
    Calls Tryd.prog 18 #[.string a0, .int .i64 a1] w fun e w' => e = .returned (.string r) ∧ Drawn0 w w' := by
  have H : (if (a0.size : Int) > a1 then (if 0 ≤ a1 then (if a1 ≤ (a0.size : Int) then (some (a0.extract 0 (a1 : Int).toNat)) else (none)) else (none)) else (some a0)) = some r := h
  clear h
  by_cases c3 : (a0.size : Int) > a1
  · rw [if_pos c3] at H
    have c3b0 : decide (a1 < (a0.size : Int)) = true := decide_eq_true c3
    clear c3
    by_cases c4 : 0 ≤ a1
    · rw [if_pos c4] at H
      have c4b0 := eq_true c4
      have c4b1 : decide (0 ≤ a1) = true := decide_eq_true c4
      clear c4
      by_cases c5 : a1 ≤ (a0.size : Int)
      · rw [if_pos c5] at H
        have c5b0 := eq_true c5
        have c5b1 : decide (a1 ≤ (a0.size : Int)) = true := decide_eq_true c5
        clear c5
        obtain rfl := Option.some.inj H
        go_enter Tryd.func18, Tryd.ntmps18
        go_wp2
        go_ret
        exact ⟨by first | rfl | (simp; done) | (simp [*]; done), by repeat (first | exact Drawn0.refl _ | apply Drawn0.step)⟩
      · rw [if_neg c5] at H
        exact absurd H (by simp)
    · rw [if_neg c4] at H
      exact absurd H (by simp)
  · rw [if_neg c3] at H
    have c3b0 : decide (a1 < (a0.size : Int)) = false := decide_eq_false c3
    clear c3
    obtain rfl := Option.some.inj H
    go_enter Tryd.func18, Tryd.ntmps18
    go_wp2
    go_ret
    exact ⟨by first | rfl | (simp; done) | (simp [*]; done), by repeat (first | exact Drawn0.refl _ | apply Drawn0.step)⟩

/-! ### num_Normal: function 20 -/
def num_Normal.f (a0 : ByteArray) : Option (ByteArray × Int) := if a0.size ≤ 50000 then some (B (normL a0.data.toList).1, (normL a0.data.toList).2) else none
theorem num_Normal.calls (a0 : ByteArray) (r1 : ByteArray) (r2 : Int) (w : World) (he : Env w) (h : num_Normal.f a0 = some (r1, r2)) : Calls Tryd.prog 20 #[.string a0] w fun e w' => e = .returned (.tuple #[.string r1, .int .i64 r2]) ∧ Below w.heap.size w w' := by
  unfold num_Normal.f at h
  split at h
  · rename_i hb
    obtain ⟨rfl, rfl⟩ := Prod.mk.inj (Option.some.inj h)
    have h1 := normal_any a0.data.toList w (by have e : a0.data.toList.length = a0.size := rfl; omega) he
    simp only [B_of] at h1
    exact h1
  · cases h

/-! ### emendlaw2_NumOne: function 5 -/
mutual
def emendlaw2_NumOne.j0 : Nat → ByteArray → ByteArray → ByteArray → ByteArray → Bool → Option (Bool)
  | 0, _, _, _, _, _ => none
  | k + 1, x0, x1, x5, x7, x33 => if x33 = true then ((emendlaw2_NumRuns.f).bind fun t107 => (some t107)) else ((num_Compare.f x0 x1).bind fun bt108 => ((num_Normal.f x5).bind fun bt110 => (if bt108.2 = 0 then (if ((bt108.1 == 0) != (x5.toList == x7.toList)) = true then (emendlaw2_NumOne.j1 k x0 x5 true) else (if bt110.2 = 0 then (emendlaw2_NumOne.j1 k x0 x5 (bt110.1.toList != x5.toList)) else (emendlaw2_NumOne.j1 k x0 x5 true))) else (emendlaw2_NumOne.j1 k x0 x5 true))))
def emendlaw2_NumOne.j1 : Nat → ByteArray → ByteArray → Bool → Option (Bool)
  | 0, _, _, _ => none
  | k + 1, x0, x5, x64 => if x64 = true then (some false) else ((num_Plain.f x0).bind fun bt112 => (if bt112.2 = 0 then ((num_Normal.f bt112.1).bind fun bt114 => (if bt114.2 = 0 then (if bt114.1.toList = x5.toList then ((emendlaw2_NumRuns.f).bind fun t116 => (some t116)) else (some false)) else (some false))) else ((emendlaw2_NumRuns.f).bind fun t117 => (some t117))))
end
def emendlaw2_NumOne.f (k : Nat) (a0 : ByteArray) (a1 : ByteArray) : Option (Bool) := (emendlaw2_few.f a0 300).bind fun t101 => ((emendlaw2_few.f a1 300).bind fun t102 => ((num_Normal.f t101).bind fun bt103 => ((num_Normal.f t102).bind fun bt105 => (if bt103.2 = 0 then (emendlaw2_NumOne.j0 k t101 t102 bt103.1 bt105.1 (bt105.2 != 0)) else (emendlaw2_NumOne.j0 k t101 t102 bt103.1 bt105.1 true)))))
theorem emendlaw2_NumOne.mono_l : ∀ k, (∀ y0 y1 y2 y3 y4, LeO (emendlaw2_NumOne.j0 k y0 y1 y2 y3 y4) (emendlaw2_NumOne.j0 (k + 1) y0 y1 y2 y3 y4)) ∧ (∀ y0 y1 y2, LeO (emendlaw2_NumOne.j1 k y0 y1 y2) (emendlaw2_NumOne.j1 (k + 1) y0 y1 y2))
  | 0 => ⟨fun _ _ _ _ _ r h => by simp [emendlaw2_NumOne.j0] at h, fun _ _ _ r h => by simp [emendlaw2_NumOne.j1] at h⟩
  | k + 1 => by
    obtain ⟨ih0, ih1⟩ := emendlaw2_NumOne.mono_l k
    refine ⟨?_, ?_⟩
    · intro y0 y1 y2 y3 y4
      unfold emendlaw2_NumOne.j0
      repeat' first
      | (with_reducible exact ih0 _ _ _ _ _)
      | (with_reducible exact ih1 _ _ _)
      | (with_reducible exact LeO.refl _)
      | (with_reducible exact LeO.none _)
      | (with_reducible refine LeO.ite ?_ ?_)
      | (with_reducible refine LeO.bind ?_ (fun _ => ?_))
      | exact ih0 _ _ _ _ _
      | exact ih1 _ _ _
      | exact LeO.none _
      | refine LeO.ite ?_ ?_
      | refine LeO.bind ?_ (fun _ => ?_)
    · intro y0 y1 y2
      unfold emendlaw2_NumOne.j1
      repeat' first
      | (with_reducible exact ih0 _ _ _ _ _)
      | (with_reducible exact ih1 _ _ _)
      | (with_reducible exact LeO.refl _)
      | (with_reducible exact LeO.none _)
      | (with_reducible refine LeO.ite ?_ ?_)
      | (with_reducible refine LeO.bind ?_ (fun _ => ?_))
      | exact ih0 _ _ _ _ _
      | exact ih1 _ _ _
      | exact LeO.none _
      | refine LeO.ite ?_ ?_
      | refine LeO.bind ?_ (fun _ => ?_)
theorem emendlaw2_NumOne.mono : ∀ a0 a1 k, LeO (emendlaw2_NumOne.f k a0 a1) (emendlaw2_NumOne.f (k + 1) a0 a1) := by
  intro a0 a1 k
  obtain ⟨ih0, ih1⟩ := emendlaw2_NumOne.mono_l k
  unfold emendlaw2_NumOne.f
  repeat' first
      | (with_reducible exact ih0 _ _ _ _ _)
      | (with_reducible exact ih1 _ _ _)
      | (with_reducible exact LeO.refl _)
      | (with_reducible exact LeO.none _)
      | (with_reducible refine LeO.ite ?_ ?_)
      | (with_reducible refine LeO.bind ?_ (fun _ => ?_))
      | exact ih0 _ _ _ _ _
      | exact ih1 _ _ _
      | exact LeO.none _
      | refine LeO.ite ?_ ?_
      | refine LeO.bind ?_ (fun _ => ?_)
set_option maxHeartbeats 8000000 in
set_option maxRecDepth 100000 in
theorem emendlaw2_NumOne.calls (k : Nat) (a0 : ByteArray) (a1 : ByteArray) (r : Bool) (w : World) (he : Env w) (h : emendlaw2_NumOne.f k a0 a1 = some r) :
    Calls Tryd.prog 5 #[.string a0, .string a1] w fun e w' => e = .returned (.bool r) ∧ Below w.heap.size w w' := by
  have HEnv := Aside0.mk he
  clear he
  have HB := Aside0.mk (Below.refl w.heap.size w)
  have H : ((emendlaw2_few.f a0 300).bind fun t101 => ((emendlaw2_few.f a1 300).bind fun t102 => ((num_Normal.f t101).bind fun bt103 => ((num_Normal.f t102).bind fun bt105 => (if bt103.2 = 0 then (emendlaw2_NumOne.j0 k t101 t102 bt103.1 bt105.1 (bt105.2 != 0)) else (emendlaw2_NumOne.j0 k t101 t102 bt103.1 bt105.1 true)))))) = some r := h
  clear h
  replace H := Option.bind_eq_some_iff.mp H
  obtain ⟨t101, A30, H⟩ := H
  replace H : ((emendlaw2_few.f a1 300).bind fun t102 => ((num_Normal.f t101).bind fun bt103 => ((num_Normal.f t102).bind fun bt105 => (if bt103.2 = 0 then (emendlaw2_NumOne.j0 k t101 t102 bt103.1 bt105.1 (bt105.2 != 0)) else (emendlaw2_NumOne.j0 k t101 t102 bt103.1 bt105.1 true))))) = some r := H
  have A3 := Aside0.mk A30
  clear A30
  replace H := Option.bind_eq_some_iff.mp H
  obtain ⟨t102, A40, H⟩ := H
  replace H : ((num_Normal.f t101).bind fun bt103 => ((num_Normal.f t102).bind fun bt105 => (if bt103.2 = 0 then (emendlaw2_NumOne.j0 k t101 t102 bt103.1 bt105.1 (bt105.2 != 0)) else (emendlaw2_NumOne.j0 k t101 t102 bt103.1 bt105.1 true)))) = some r := H
  have A4 := Aside0.mk A40
  clear A40
  replace H := Option.bind_eq_some_iff.mp H
  obtain ⟨⟨t103, t104⟩, A50, H⟩ := H
  replace H : ((num_Normal.f t102).bind fun bt105 => (if t104 = 0 then (emendlaw2_NumOne.j0 k t101 t102 t103 bt105.1 (bt105.2 != 0)) else (emendlaw2_NumOne.j0 k t101 t102 t103 bt105.1 true))) = some r := H
  have A5 := Aside0.mk A50
  clear A50
  replace H := Option.bind_eq_some_iff.mp H
  obtain ⟨⟨t105, t106⟩, A60, H⟩ := H
  replace H : (if t104 = 0 then (emendlaw2_NumOne.j0 k t101 t102 t103 t105 (t106 != 0)) else (emendlaw2_NumOne.j0 k t101 t102 t103 t105 true)) = some r := H
  have A6 := Aside0.mk A60
  clear A60
  have HC7 := Aside0.mk H
  clear H
  go_enter Tryd.func5, Tryd.ntmps5
  go_upto_region 5 with (first | ((with_reducible refine gate_callee (f := 18) rfl ?_); refine goesL_ (some 15) rfl rfl Tryd.func18 (by kernel_rfl) rfl #[.string a0, .int .i64 300] rfl (by (try simp only [List.map_toArray, List.map_cons, List.map_nil]); first | done | rfl | (simp only [List.length_drop, List.length_take]; rfl)) ?_; (with_reducible refine (emendlaw2_few.calls a0 300 t101 _ A3.out).mono ?_); rintro e w' ⟨rfl, ⟨nd, rfl⟩⟩; refine ⟨_, rfl, ?_⟩) | ((with_reducible refine gate_callee (f := 18) rfl ?_); refine goesL_ (some 17) rfl rfl Tryd.func18 (by kernel_rfl) rfl #[.string a1, .int .i64 300] rfl (by (try simp only [List.map_toArray, List.map_cons, List.map_nil]); first | done | rfl | (simp only [List.length_drop, List.length_take]; rfl)) ?_; (with_reducible refine (emendlaw2_few.calls a1 300 t102 _ A4.out).mono ?_); rintro e w' ⟨rfl, ⟨nd, rfl⟩⟩; refine ⟨_, rfl, ?_⟩) | ((with_reducible refine gate_callee (f := 20) rfl ?_); refine goesL_ (some 20) rfl rfl Tryd.func20 (by kernel_rfl) rfl #[.string t101] rfl (by (try simp only [List.map_toArray, List.map_cons, List.map_nil]); first | done | rfl | (simp only [List.length_drop, List.length_take]; rfl)) ?_; (with_reducible refine (num_Normal.calls t101 t103 t104 _ (HEnv.out.below (by repeat (first | (with_reducible first | exact HB.out | apply below_alloc | apply pw_below_drewN | apply below_drew1) | exact HB.out)) HEnv.out.size) A5.out).mono ?_); rintro e w8 ⟨rfl, hb⟩; refine ⟨_, rfl, ?_⟩; have n0_ := Aside0.mk (below_step (by repeat (first | (with_reducible first | exact HB.out | apply below_alloc | apply pw_below_drewN | apply below_drew1) | exact HB.out)) hb); clear HB; have HB := n0_; clear n0_; (try clear hb); (try clear hb2); (try clear hk); (try clear hi)) | ((with_reducible refine gate_callee (f := 20) rfl ?_); refine goesL_ (some 25) rfl rfl Tryd.func20 (by kernel_rfl) rfl #[.string t102] rfl (by (try simp only [List.map_toArray, List.map_cons, List.map_nil]); first | done | rfl | (simp only [List.length_drop, List.length_take]; rfl)) ?_; (with_reducible refine (num_Normal.calls t102 t105 t106 _ (HEnv.out.below (by repeat (first | (with_reducible first | exact HB.out | apply below_alloc | apply pw_below_drewN | apply below_drew1) | exact HB.out)) HEnv.out.size) A6.out).mono ?_); rintro e w9 ⟨rfl, hb⟩; refine ⟨_, rfl, ?_⟩; have n0_ := Aside0.mk (below_step (by repeat (first | (with_reducible first | exact HB.out | apply below_alloc | apply pw_below_drewN | apply below_drew1) | exact HB.out)) hb); clear HB; have HB := n0_; clear n0_; (try clear hb); (try clear hb2); (try clear hk); (try clear hi)))
  (try simp only [Act.put, List.setIfInBounds_toArray, List.set_cons_zero, List.set_cons_succ])
  go_cut [33] (fun v33 wc => ∃ (kq : Nat) (x33_6 : Bool), v33 = .bool x33_6 ∧ Aside0 (emendlaw2_NumOne.j0 kq t101 t102 t103 t105 x33_6 = some r) ∧ Aside0 (kq ≤ k) ∧ Aside0 (Below w.heap.size w wc))
  case first =>
    have H := HC7.out
    clear HC7
    by_cases c10 : t104 = 0
    · rw [if_pos c10] at H
      have c10b0 : (t104 == 0) = true := beq_iff_eq.mpr c10
      have c10b1 : (t104 != 0) = false := bne_eq_false_iff_eq.mpr c10
      clear c10
      (first | rw [c10b0] | (simp only [i64_w, i32_w]; rw [c10b0]) | skip)
      have H' := Aside0.mk H
      clear H
      go_wp2
      go_meet
      case rel => exact ⟨_, ((t106 != 0)), (by first | rfl | (simp; done) | (simp [*]; done)), H', ⟨by first | omega | exact Nat.le_refl _⟩, ⟨by repeat (first | (with_reducible first | exact HB.out | apply below_alloc | apply pw_below_drewN | apply below_drew1) | exact HB.out)⟩⟩
    · rw [if_neg c10] at H
      have c10b0 : (t104 == 0) = false := beq_eq_false_iff_ne.mpr c10
      have c10b1 : (t104 != 0) = true := bne_iff_ne.mpr c10
      (first | rw [c10b0] | (simp only [i64_w, i32_w]; rw [c10b0]) | skip)
      have H' := Aside0.mk H
      clear H
      go_wp2
      go_meet
      case rel => exact ⟨_, (true), (by first | rfl | (simp; done) | (simp [*]; done)), H', ⟨by first | omega | exact Nat.le_refl _⟩, ⟨by repeat (first | (with_reducible first | exact HB.out | apply below_alloc | apply pw_below_drewN | apply below_drew1) | exact HB.out)⟩⟩
  case rest =>
    clear HC7
    try clear c1
    try clear c2
    try clear p2
    try clear c5
    try clear c10
    try clear c10b0
    try clear c10b1
    obtain ⟨kq, x33_6, rfl, HA, HJ6, HB⟩ := hcut
    cases kq with
    | zero => exact absurd HA.out (by simp [emendlaw2_NumOne.j0])
    | succ kj6 =>
      have H := HA.out
      clear HA
      simp only [emendlaw2_NumOne.j0] at H
      by_cases c11 : x33_6 = true
      · subst c11
        have H1 : ((emendlaw2_NumRuns.f).bind fun t107 => (some t107)) = some r := by rw [if_pos rfl] at H; exact H
        clear H
        have H := H1
        clear H1
        replace H := Option.bind_eq_some_iff.mp H
        obtain ⟨t107, A120, H⟩ := H
        replace H : (some t107) = some r := H
        have A12 := Aside0.mk A120
        clear A120
        obtain rfl := Option.some.inj H
        go_wp2_with (first | ((with_reducible refine gate_callee (f := 3) rfl ?_); refine goesL_ (some 34) rfl rfl Tryd.func3 (by kernel_rfl) rfl #[] rfl (by (try simp only [List.map_toArray, List.map_cons, List.map_nil]); first | done | rfl | (simp only [List.length_drop, List.length_take]; rfl)) ?_; (with_reducible refine (emendlaw2_NumRuns.calls  t107 _ (HEnv.out.below (by repeat (first | (with_reducible first | exact HB.out | apply below_alloc | apply pw_below_drewN | apply below_drew1) | exact HB.out)) HEnv.out.size) A12.out).mono ?_); rintro e w13 ⟨rfl, hb⟩; refine ⟨_, rfl, ?_⟩; have n0_ := Aside0.mk (below_step (by repeat (first | (with_reducible first | exact HB.out | apply below_alloc | apply pw_below_drewN | apply below_drew1) | exact HB.out)) hb); clear HB; have HB := n0_; clear n0_; (try clear hb); (try clear hb2); (try clear hk); (try clear hi)))
        go_ret
        exact ⟨by first | rfl | (simp [errW_none, errW_some] <;> rfl) | (simp [*, errW_none, errW_some] <;> rfl), by repeat (first | (with_reducible first | exact HB.out | apply below_alloc | apply pw_below_drewN | apply below_drew1) | exact HB.out)⟩
      · replace c11 := Bool.eq_false_iff.mpr c11
        subst c11
        have H1 : ((num_Compare.f t101 t102).bind fun bt108 => ((num_Normal.f t103).bind fun bt110 => (if bt108.2 = 0 then (if ((bt108.1 == 0) != (t103.toList == t105.toList)) = true then (emendlaw2_NumOne.j1 kj6 t101 t103 true) else (if bt110.2 = 0 then (emendlaw2_NumOne.j1 kj6 t101 t103 (bt110.1.toList != t103.toList)) else (emendlaw2_NumOne.j1 kj6 t101 t103 true))) else (emendlaw2_NumOne.j1 kj6 t101 t103 true)))) = some r := by rw [if_neg (show ¬ (false = true) by decide)] at H; exact H
        clear H
        have H := H1
        clear H1
        replace H := Option.bind_eq_some_iff.mp H
        obtain ⟨⟨t108, t109⟩, A140, H⟩ := H
        replace H : ((num_Normal.f t103).bind fun bt110 => (if t109 = 0 then (if ((t108 == 0) != (t103.toList == t105.toList)) = true then (emendlaw2_NumOne.j1 kj6 t101 t103 true) else (if bt110.2 = 0 then (emendlaw2_NumOne.j1 kj6 t101 t103 (bt110.1.toList != t103.toList)) else (emendlaw2_NumOne.j1 kj6 t101 t103 true))) else (emendlaw2_NumOne.j1 kj6 t101 t103 true))) = some r := H
        have A14 := Aside0.mk A140
        clear A140
        replace H := Option.bind_eq_some_iff.mp H
        obtain ⟨⟨t110, t111⟩, A150, H⟩ := H
        replace H : (if t109 = 0 then (if ((t108 == 0) != (t103.toList == t105.toList)) = true then (emendlaw2_NumOne.j1 kj6 t101 t103 true) else (if t111 = 0 then (emendlaw2_NumOne.j1 kj6 t101 t103 (t110.toList != t103.toList)) else (emendlaw2_NumOne.j1 kj6 t101 t103 true))) else (emendlaw2_NumOne.j1 kj6 t101 t103 true)) = some r := H
        have A15 := Aside0.mk A150
        clear A150
        have HC16 := Aside0.mk H
        clear H
        go_upto_region 9 with (first | ((with_reducible refine gate_callee (f := 15) rfl ?_); refine goesL_ (some 38) rfl rfl Tryd.func15 (by kernel_rfl) rfl #[.string t101, .string t102] rfl (by (try simp only [List.map_toArray, List.map_cons, List.map_nil]); first | done | rfl | (simp only [List.length_drop, List.length_take]; rfl)) ?_; (with_reducible refine (num_Compare.calls t101 t102 t108 t109 _ (HEnv.out.below (by repeat (first | (with_reducible first | exact HB.out | apply below_alloc | apply pw_below_drewN | apply below_drew1) | exact HB.out)) HEnv.out.size) A14.out).mono ?_); rintro e w17 ⟨rfl, hb⟩; refine ⟨_, rfl, ?_⟩; have n0_ := Aside0.mk (below_step (by repeat (first | (with_reducible first | exact HB.out | apply below_alloc | apply pw_below_drewN | apply below_drew1) | exact HB.out)) hb); clear HB; have HB := n0_; clear n0_; (try clear hb); (try clear hb2); (try clear hk); (try clear hi)) | ((with_reducible refine gate_callee (f := 20) rfl ?_); refine goesL_ (some 43) rfl rfl Tryd.func20 (by kernel_rfl) rfl #[.string t103] rfl (by (try simp only [List.map_toArray, List.map_cons, List.map_nil]); first | done | rfl | (simp only [List.length_drop, List.length_take]; rfl)) ?_; (with_reducible refine (num_Normal.calls t103 t110 t111 _ (HEnv.out.below (by repeat (first | (with_reducible first | exact HB.out | apply below_alloc | apply pw_below_drewN | apply below_drew1) | exact HB.out)) HEnv.out.size) A15.out).mono ?_); rintro e w18 ⟨rfl, hb⟩; refine ⟨_, rfl, ?_⟩; have n0_ := Aside0.mk (below_step (by repeat (first | (with_reducible first | exact HB.out | apply below_alloc | apply pw_below_drewN | apply below_drew1) | exact HB.out)) hb); clear HB; have HB := n0_; clear n0_; (try clear hb); (try clear hb2); (try clear hk); (try clear hi)))
        (try simp only [Act.put, List.setIfInBounds_toArray, List.set_cons_zero, List.set_cons_succ])
        go_cut [64] (fun v64 wc => ∃ (kq : Nat) (x64_15 : Bool), v64 = .bool x64_15 ∧ Aside0 (emendlaw2_NumOne.j1 kq t101 t103 x64_15 = some r) ∧ Aside0 (kq ≤ kj6) ∧ Aside0 (Below w.heap.size w wc))
        case first =>
          have H := HC16.out
          clear HC16
          by_cases c19 : t109 = 0
          · rw [if_pos c19] at H
            have c19b0 : (t109 == 0) = true := beq_iff_eq.mpr c19
            have c19b1 : (t109 != 0) = false := bne_eq_false_iff_eq.mpr c19
            clear c19
            (first | rw [c19b0] | (simp only [i64_w, i32_w]; rw [c19b0]) | skip)
            by_cases c20 : ((t108 == 0) != (t103.toList == t105.toList)) = true
            · rw [if_pos c20] at H
              have c20b0 : ((t108 == 0) != (t103.toList == t105.toList)) = true := c20
              (try (have c20b1 : decide ((t108 == 0) = (t103.toList == t105.toList)) = false := by simpa using c20))
              (try (have c20b2 : ((t108 == 0) == (t103.toList == t105.toList)) = false := by simpa using c20))
              (try (have c20b3 : ¬ ((t108 == 0) = (t103.toList == t105.toList)) := by simpa using c20))
              clear c20
              have H' := Aside0.mk H
              clear H
              go_wp2
              go_meet
              case rel => exact ⟨_, (true), (by first | rfl | (simp; done) | (simp [*]; done)), H', ⟨by have := HJ6.out; first | omega | exact Nat.le_refl _⟩, ⟨by repeat (first | (with_reducible first | exact HB.out | apply below_alloc | apply pw_below_drewN | apply below_drew1) | exact HB.out)⟩⟩
            · rw [if_neg c20] at H
              have c20b0 : ((t108 == 0) != (t103.toList == t105.toList)) = false := by simpa using c20
              (try (have c20b1 : decide ((t108 == 0) = (t103.toList == t105.toList)) = true := by simpa using c20))
              (try (have c20b2 : ((t108 == 0) == (t103.toList == t105.toList)) = true := by simpa using c20))
              clear c20
              by_cases c21 : t111 = 0
              · rw [if_pos c21] at H
                have c21b0 : (t111 == 0) = true := beq_iff_eq.mpr c21
                have c21b1 : (t111 != 0) = false := bne_eq_false_iff_eq.mpr c21
                clear c21
                have H' := Aside0.mk H
                clear H
                go_wp2
                go_meet
                case rel => exact ⟨_, ((t110.toList != t103.toList)), (by first | rfl | (simp; done) | (simp [*]; done)), H', ⟨by have := HJ6.out; first | omega | exact Nat.le_refl _⟩, ⟨by repeat (first | (with_reducible first | exact HB.out | apply below_alloc | apply pw_below_drewN | apply below_drew1) | exact HB.out)⟩⟩
              · rw [if_neg c21] at H
                have c21b0 : (t111 == 0) = false := beq_eq_false_iff_ne.mpr c21
                have c21b1 : (t111 != 0) = true := bne_iff_ne.mpr c21
                have H' := Aside0.mk H
                clear H
                go_wp2
                go_meet
                case rel => exact ⟨_, (true), (by first | rfl | (simp; done) | (simp [*]; done)), H', ⟨by have := HJ6.out; first | omega | exact Nat.le_refl _⟩, ⟨by repeat (first | (with_reducible first | exact HB.out | apply below_alloc | apply pw_below_drewN | apply below_drew1) | exact HB.out)⟩⟩
          · rw [if_neg c19] at H
            have c19b0 : (t109 == 0) = false := beq_eq_false_iff_ne.mpr c19
            have c19b1 : (t109 != 0) = true := bne_iff_ne.mpr c19
            (first | rw [c19b0] | (simp only [i64_w, i32_w]; rw [c19b0]) | skip)
            have H' := Aside0.mk H
            clear H
            go_wp2
            go_meet
            case rel => exact ⟨_, (true), (by first | rfl | (simp; done) | (simp [*]; done)), H', ⟨by have := HJ6.out; first | omega | exact Nat.le_refl _⟩, ⟨by repeat (first | (with_reducible first | exact HB.out | apply below_alloc | apply pw_below_drewN | apply below_drew1) | exact HB.out)⟩⟩
        case rest =>
          clear HC16
          try clear c1
          try clear c2
          try clear p2
          try clear c3
          try clear c5
          try clear c10
          try clear c10b0
          try clear c10b1
          try clear c11
          try clear c15
          try clear c18
          try clear c19
          try clear c19b0
          try clear c19b1
          try clear c20
          try clear c20b0
          try clear c20b1
          try clear c20b2
          try clear c21
          try clear c21b0
          try clear c21b1
          try clear p2
          obtain ⟨kq, x64_15, rfl, HA, HJ15, HB⟩ := hcut
          cases kq with
          | zero => exact absurd HA.out (by simp [emendlaw2_NumOne.j1])
          | succ kj15 =>
            have H := HA.out
            clear HA
            simp only [emendlaw2_NumOne.j1] at H
            by_cases c22 : x64_15 = true
            · subst c22
              have H1 : (some false) = some r := by rw [if_pos rfl] at H; exact H
              clear H
              have H := H1
              clear H1
              obtain rfl := Option.some.inj H
              go_wp2
              go_ret
              exact ⟨by first | rfl | (simp [errW_none, errW_some] <;> rfl) | (simp [*, errW_none, errW_some] <;> rfl), by repeat (first | (with_reducible first | exact HB.out | apply below_alloc | apply pw_below_drewN | apply below_drew1) | exact HB.out)⟩
            · replace c22 := Bool.eq_false_iff.mpr c22
              subst c22
              have H1 : ((num_Plain.f t101).bind fun bt112 => (if bt112.2 = 0 then ((num_Normal.f bt112.1).bind fun bt114 => (if bt114.2 = 0 then (if bt114.1.toList = t103.toList then ((emendlaw2_NumRuns.f).bind fun t116 => (some t116)) else (some false)) else (some false))) else ((emendlaw2_NumRuns.f).bind fun t117 => (some t117)))) = some r := by rw [if_neg (show ¬ (false = true) by decide)] at H; exact H
              clear H
              have H := H1
              clear H1
              replace H := Option.bind_eq_some_iff.mp H
              obtain ⟨⟨t112, t113⟩, A230, H⟩ := H
              replace H : (if t113 = 0 then ((num_Normal.f t112).bind fun bt114 => (if bt114.2 = 0 then (if bt114.1.toList = t103.toList then ((emendlaw2_NumRuns.f).bind fun t116 => (some t116)) else (some false)) else (some false))) else ((emendlaw2_NumRuns.f).bind fun t117 => (some t117))) = some r := H
              have A23 := Aside0.mk A230
              clear A230
              by_cases c24 : t113 = 0
              · rw [if_pos c24] at H
                have c24b0 : (t113 == 0) = true := beq_iff_eq.mpr c24
                have c24b1 : (t113 != 0) = false := bne_eq_false_iff_eq.mpr c24
                clear c24
                replace H := Option.bind_eq_some_iff.mp H
                obtain ⟨⟨t114, t115⟩, A250, H⟩ := H
                replace H : (if t115 = 0 then (if t114.toList = t103.toList then ((emendlaw2_NumRuns.f).bind fun t116 => (some t116)) else (some false)) else (some false)) = some r := H
                have A25 := Aside0.mk A250
                clear A250
                by_cases c26 : t115 = 0
                · rw [if_pos c26] at H
                  have c26b0 : (t115 == 0) = true := beq_iff_eq.mpr c26
                  have c26b1 : (t115 != 0) = false := bne_eq_false_iff_eq.mpr c26
                  clear c26
                  by_cases c27 : t114.toList = t103.toList
                  · rw [if_pos c27] at H
                    have c27b0 : (t114.toList == t103.toList) = true := beq_iff_eq.mpr c27
                    have c27b1 : (t114.toList != t103.toList) = false := bne_eq_false_iff_eq.mpr c27
                    clear c27
                    replace H := Option.bind_eq_some_iff.mp H
                    obtain ⟨t116, A280, H⟩ := H
                    replace H : (some t116) = some r := H
                    have A28 := Aside0.mk A280
                    clear A280
                    obtain rfl := Option.some.inj H
                    go_wp2_with (first | ((with_reducible refine gate_callee (f := 13) rfl ?_); refine goesL_ (some 67) rfl rfl Tryd.func13 (by kernel_rfl) rfl #[.string t101] rfl (by (try simp only [List.map_toArray, List.map_cons, List.map_nil]); first | done | rfl | (simp only [List.length_drop, List.length_take]; rfl)) ?_; (with_reducible refine (num_Plain.calls t101 t112 t113 _ (HEnv.out.below (by repeat (first | (with_reducible first | exact HB.out | apply below_alloc | apply pw_below_drewN | apply below_drew1) | exact HB.out)) HEnv.out.size) A23.out).mono ?_); rintro e w29 ⟨rfl, hb⟩; refine ⟨_, rfl, ?_⟩; have n0_ := Aside0.mk (below_step (by repeat (first | (with_reducible first | exact HB.out | apply below_alloc | apply pw_below_drewN | apply below_drew1) | exact HB.out)) hb); clear HB; have HB := n0_; clear n0_; (try clear hb); (try clear hb2); (try clear hk); (try clear hi)) | ((with_reducible refine gate_callee (f := 20) rfl ?_); refine goesL_ (some 74) rfl rfl Tryd.func20 (by kernel_rfl) rfl #[.string t112] rfl (by (try simp only [List.map_toArray, List.map_cons, List.map_nil]); first | done | rfl | (simp only [List.length_drop, List.length_take]; rfl)) ?_; (with_reducible refine (num_Normal.calls t112 t114 t115 _ (HEnv.out.below (by repeat (first | (with_reducible first | exact HB.out | apply below_alloc | apply pw_below_drewN | apply below_drew1) | exact HB.out)) HEnv.out.size) A25.out).mono ?_); rintro e w30 ⟨rfl, hb⟩; refine ⟨_, rfl, ?_⟩; have n0_ := Aside0.mk (below_step (by repeat (first | (with_reducible first | exact HB.out | apply below_alloc | apply pw_below_drewN | apply below_drew1) | exact HB.out)) hb); clear HB; have HB := n0_; clear n0_; (try clear hb); (try clear hb2); (try clear hk); (try clear hi)) | ((with_reducible refine gate_callee (f := 3) rfl ?_); refine goesL_ (some 84) rfl rfl Tryd.func3 (by kernel_rfl) rfl #[] rfl (by (try simp only [List.map_toArray, List.map_cons, List.map_nil]); first | done | rfl | (simp only [List.length_drop, List.length_take]; rfl)) ?_; (with_reducible refine (emendlaw2_NumRuns.calls  t116 _ (HEnv.out.below (by repeat (first | (with_reducible first | exact HB.out | apply below_alloc | apply pw_below_drewN | apply below_drew1) | exact HB.out)) HEnv.out.size) A28.out).mono ?_); rintro e w31 ⟨rfl, hb⟩; refine ⟨_, rfl, ?_⟩; have n0_ := Aside0.mk (below_step (by repeat (first | (with_reducible first | exact HB.out | apply below_alloc | apply pw_below_drewN | apply below_drew1) | exact HB.out)) hb); clear HB; have HB := n0_; clear n0_; (try clear hb); (try clear hb2); (try clear hk); (try clear hi)))
                    go_ret
                    exact ⟨by first | rfl | (simp [errW_none, errW_some] <;> rfl) | (simp [*, errW_none, errW_some] <;> rfl), by repeat (first | (with_reducible first | exact HB.out | apply below_alloc | apply pw_below_drewN | apply below_drew1) | exact HB.out)⟩
                  · rw [if_neg c27] at H
                    have c27b0 : (t114.toList == t103.toList) = false := beq_eq_false_iff_ne.mpr c27
                    have c27b1 : (t114.toList != t103.toList) = true := bne_iff_ne.mpr c27
                    obtain rfl := Option.some.inj H
                    go_wp2_with (first | ((with_reducible refine gate_callee (f := 13) rfl ?_); refine goesL_ (some 67) rfl rfl Tryd.func13 (by kernel_rfl) rfl #[.string t101] rfl (by (try simp only [List.map_toArray, List.map_cons, List.map_nil]); first | done | rfl | (simp only [List.length_drop, List.length_take]; rfl)) ?_; (with_reducible refine (num_Plain.calls t101 t112 t113 _ (HEnv.out.below (by repeat (first | (with_reducible first | exact HB.out | apply below_alloc | apply pw_below_drewN | apply below_drew1) | exact HB.out)) HEnv.out.size) A23.out).mono ?_); rintro e w32 ⟨rfl, hb⟩; refine ⟨_, rfl, ?_⟩; have n0_ := Aside0.mk (below_step (by repeat (first | (with_reducible first | exact HB.out | apply below_alloc | apply pw_below_drewN | apply below_drew1) | exact HB.out)) hb); clear HB; have HB := n0_; clear n0_; (try clear hb); (try clear hb2); (try clear hk); (try clear hi)) | ((with_reducible refine gate_callee (f := 20) rfl ?_); refine goesL_ (some 74) rfl rfl Tryd.func20 (by kernel_rfl) rfl #[.string t112] rfl (by (try simp only [List.map_toArray, List.map_cons, List.map_nil]); first | done | rfl | (simp only [List.length_drop, List.length_take]; rfl)) ?_; (with_reducible refine (num_Normal.calls t112 t114 t115 _ (HEnv.out.below (by repeat (first | (with_reducible first | exact HB.out | apply below_alloc | apply pw_below_drewN | apply below_drew1) | exact HB.out)) HEnv.out.size) A25.out).mono ?_); rintro e w33 ⟨rfl, hb⟩; refine ⟨_, rfl, ?_⟩; have n0_ := Aside0.mk (below_step (by repeat (first | (with_reducible first | exact HB.out | apply below_alloc | apply pw_below_drewN | apply below_drew1) | exact HB.out)) hb); clear HB; have HB := n0_; clear n0_; (try clear hb); (try clear hb2); (try clear hk); (try clear hi)))
                    go_ret
                    exact ⟨by first | rfl | (simp [errW_none, errW_some] <;> rfl) | (simp [*, errW_none, errW_some] <;> rfl), by repeat (first | (with_reducible first | exact HB.out | apply below_alloc | apply pw_below_drewN | apply below_drew1) | exact HB.out)⟩
                · rw [if_neg c26] at H
                  have c26b0 : (t115 == 0) = false := beq_eq_false_iff_ne.mpr c26
                  have c26b1 : (t115 != 0) = true := bne_iff_ne.mpr c26
                  obtain rfl := Option.some.inj H
                  go_wp2_with (first | ((with_reducible refine gate_callee (f := 13) rfl ?_); refine goesL_ (some 67) rfl rfl Tryd.func13 (by kernel_rfl) rfl #[.string t101] rfl (by (try simp only [List.map_toArray, List.map_cons, List.map_nil]); first | done | rfl | (simp only [List.length_drop, List.length_take]; rfl)) ?_; (with_reducible refine (num_Plain.calls t101 t112 t113 _ (HEnv.out.below (by repeat (first | (with_reducible first | exact HB.out | apply below_alloc | apply pw_below_drewN | apply below_drew1) | exact HB.out)) HEnv.out.size) A23.out).mono ?_); rintro e w34 ⟨rfl, hb⟩; refine ⟨_, rfl, ?_⟩; have n0_ := Aside0.mk (below_step (by repeat (first | (with_reducible first | exact HB.out | apply below_alloc | apply pw_below_drewN | apply below_drew1) | exact HB.out)) hb); clear HB; have HB := n0_; clear n0_; (try clear hb); (try clear hb2); (try clear hk); (try clear hi)) | ((with_reducible refine gate_callee (f := 20) rfl ?_); refine goesL_ (some 74) rfl rfl Tryd.func20 (by kernel_rfl) rfl #[.string t112] rfl (by (try simp only [List.map_toArray, List.map_cons, List.map_nil]); first | done | rfl | (simp only [List.length_drop, List.length_take]; rfl)) ?_; (with_reducible refine (num_Normal.calls t112 t114 t115 _ (HEnv.out.below (by repeat (first | (with_reducible first | exact HB.out | apply below_alloc | apply pw_below_drewN | apply below_drew1) | exact HB.out)) HEnv.out.size) A25.out).mono ?_); rintro e w35 ⟨rfl, hb⟩; refine ⟨_, rfl, ?_⟩; have n0_ := Aside0.mk (below_step (by repeat (first | (with_reducible first | exact HB.out | apply below_alloc | apply pw_below_drewN | apply below_drew1) | exact HB.out)) hb); clear HB; have HB := n0_; clear n0_; (try clear hb); (try clear hb2); (try clear hk); (try clear hi)))
                  go_ret
                  exact ⟨by first | rfl | (simp [errW_none, errW_some] <;> rfl) | (simp [*, errW_none, errW_some] <;> rfl), by repeat (first | (with_reducible first | exact HB.out | apply below_alloc | apply pw_below_drewN | apply below_drew1) | exact HB.out)⟩
              · rw [if_neg c24] at H
                have c24b0 : (t113 == 0) = false := beq_eq_false_iff_ne.mpr c24
                have c24b1 : (t113 != 0) = true := bne_iff_ne.mpr c24
                replace H := Option.bind_eq_some_iff.mp H
                obtain ⟨t117, A360, H⟩ := H
                replace H : (some t117) = some r := H
                have A36 := Aside0.mk A360
                clear A360
                obtain rfl := Option.some.inj H
                go_wp2_with (first | ((with_reducible refine gate_callee (f := 13) rfl ?_); refine goesL_ (some 67) rfl rfl Tryd.func13 (by kernel_rfl) rfl #[.string t101] rfl (by (try simp only [List.map_toArray, List.map_cons, List.map_nil]); first | done | rfl | (simp only [List.length_drop, List.length_take]; rfl)) ?_; (with_reducible refine (num_Plain.calls t101 t112 t113 _ (HEnv.out.below (by repeat (first | (with_reducible first | exact HB.out | apply below_alloc | apply pw_below_drewN | apply below_drew1) | exact HB.out)) HEnv.out.size) A23.out).mono ?_); rintro e w37 ⟨rfl, hb⟩; refine ⟨_, rfl, ?_⟩; have n0_ := Aside0.mk (below_step (by repeat (first | (with_reducible first | exact HB.out | apply below_alloc | apply pw_below_drewN | apply below_drew1) | exact HB.out)) hb); clear HB; have HB := n0_; clear n0_; (try clear hb); (try clear hb2); (try clear hk); (try clear hi)) | ((with_reducible refine gate_callee (f := 3) rfl ?_); refine goesL_ (some 84) rfl rfl Tryd.func3 (by kernel_rfl) rfl #[] rfl (by (try simp only [List.map_toArray, List.map_cons, List.map_nil]); first | done | rfl | (simp only [List.length_drop, List.length_take]; rfl)) ?_; (with_reducible refine (emendlaw2_NumRuns.calls  t117 _ (HEnv.out.below (by repeat (first | (with_reducible first | exact HB.out | apply below_alloc | apply pw_below_drewN | apply below_drew1) | exact HB.out)) HEnv.out.size) A36.out).mono ?_); rintro e w38 ⟨rfl, hb⟩; refine ⟨_, rfl, ?_⟩; have n0_ := Aside0.mk (below_step (by repeat (first | (with_reducible first | exact HB.out | apply below_alloc | apply pw_below_drewN | apply below_drew1) | exact HB.out)) hb); clear HB; have HB := n0_; clear n0_; (try clear hb); (try clear hb2); (try clear hk); (try clear hi)))
                go_ret
                exact ⟨by first | rfl | (simp [errW_none, errW_some] <;> rfl) | (simp [*, errW_none, errW_some] <;> rfl), by repeat (first | (with_reducible first | exact HB.out | apply below_alloc | apply pw_below_drewN | apply below_drew1) | exact HB.out)⟩

end Go.Proofs.YtjaongknagmfiaaDoor.PE
