-- PRINTED by print.py (a twelfth state) out of the translation. Not trusted: Lean checks it.
import Derived.Test.YtjaongknagmfiaaDoorPSx0
import Derived.Test.YtjaongknagmfiaaDoorPSx1
namespace Go.Proofs.YtjaongknagmfiaaDoor.PS
open Go.RowKit Go.Proofs.YtjaongknagmfiaaDoorW.PrintWords Go.Proofs.YtjaongknagmfiaaDoorW.PrintLast Go.Proofs.YtjaongknagmfiaaDoorW.PrintMore
attribute [local go_sem] max2_int min2_int max_two min_two max_three min_three max_four min_four   -- for this text's walks alone
set_option linter.unusedVariables false
set_option linter.unusedSimpArgs false

attribute [local go_sem high] eqA32
/-! ### emendlaw2_NumRuns: function 3 -/
def emendlaw2_NumRuns.f : Option Bool := some true
theorem emendlaw2_NumRuns.calls (r : Bool) (w : World) (he : Env w) (h : emendlaw2_NumRuns.f = some r) : Calls Tryd.prog 3 #[] w fun e w' => e = .returned (.bool r) ∧ Below w.heap.size w w' := by
  injection h with h
  subst h
  exact runs_true w he

/-! ### emendref2_Decimal: function 21 -/
def emendref2_Decimal.f (a0 : Int) : Option (ByteArray) := if -9223372036854775808 ≤ a0 ∧ a0 ≤ 9223372036854775807 then some (B (Lib.itoa a0)) else none
theorem emendref2_Decimal.calls (a0 : Int) (r : ByteArray) (w : World) (h : emendref2_Decimal.f a0 = some r) : Calls Tryd.prog 21 #[.int .i64 a0] w fun e w' => e = .returned (.string r) ∧ Below w.heap.size w w' := by
  unfold emendref2_Decimal.f at h
  split at h
  · rename_i hb
    injection h with h
    subst h
    exact decimal_any a0 hb.1 hb.2 w
  · cases h

/-! ### emendref2_Digits: function 24 -/
mutual
def emendref2_Digits.l0 : Nat → Int → List Int → Option (ByteArray)
  | 0, _, _ => none
  | k + 1, x0, x3 => if x0 > 9 then (if x3.length < 140737488355328 then (emendref2_Digits.l0 k (wrap64 (Int.tdiv x0 10)) (x3 ++ [(wrap64 (48 + (Int.tmod x0 10))) % 256])) else (none)) else (if x3.length < 140737488355328 then ((some (x3 ++ [(wrap64 (48 + x0)) % 256] : List Int)).bind fun y107 => (if 0 ≤ 281474976710656 then (emendref2_Digits.l1 k y107 (List.replicate 0 0) (wrap64 ((y107.length : Int) - 1))) else (none))) else (none))
def emendref2_Digits.l1 : Nat → List Int → List Int → Int → Option (ByteArray)
  | 0, _, _, _ => none
  | k + 1, x3, x4, x5 => if x5 ≥ 0 then (if 0 ≤ x5 then (if x5 < (x3.length : Int) then (if x4.length < 140737488355328 then (emendref2_Digits.l1 k x3 (x4 ++ [rd x3 x5]) (wrap64 (x5 - 1))) else (none)) else (none)) else (none)) else (some (strOfNums x4))
end
def emendref2_Digits.f (k : Nat) (a0 : Int) : Option (ByteArray) := if 0 ≤ 281474976710656 then (emendref2_Digits.l0 k a0 (List.replicate 0 0)) else (none)
theorem emendref2_Digits.mono_l : ∀ k, (∀ y0 y1, LeO (emendref2_Digits.l0 k y0 y1) (emendref2_Digits.l0 (k + 1) y0 y1)) ∧ (∀ y0 y1 y2, LeO (emendref2_Digits.l1 k y0 y1 y2) (emendref2_Digits.l1 (k + 1) y0 y1 y2))
  | 0 => ⟨fun _ _ r h => by simp [emendref2_Digits.l0] at h, fun _ _ _ r h => by simp [emendref2_Digits.l1] at h⟩
  | k + 1 => by
    obtain ⟨ih0, ih1⟩ := emendref2_Digits.mono_l k
    refine ⟨?_, ?_⟩
    · intro y0 y1
      unfold emendref2_Digits.l0
      repeat' first
      | (with_reducible exact ih0 _ _)
      | (with_reducible exact ih1 _ _ _)
      | (with_reducible exact LeO.refl _)
      | (with_reducible exact LeO.none _)
      | (with_reducible refine LeO.ite ?_ ?_)
      | (with_reducible refine LeO.bind ?_ (fun _ => ?_))
      | exact ih0 _ _
      | exact ih1 _ _ _
      | exact LeO.none _
      | refine LeO.ite ?_ ?_
      | refine LeO.bind ?_ (fun _ => ?_)
    · intro y0 y1 y2
      unfold emendref2_Digits.l1
      repeat' first
      | (with_reducible exact ih0 _ _)
      | (with_reducible exact ih1 _ _ _)
      | (with_reducible exact LeO.refl _)
      | (with_reducible exact LeO.none _)
      | (with_reducible refine LeO.ite ?_ ?_)
      | (with_reducible refine LeO.bind ?_ (fun _ => ?_))
      | exact ih0 _ _
      | exact ih1 _ _ _
      | exact LeO.none _
      | refine LeO.ite ?_ ?_
      | refine LeO.bind ?_ (fun _ => ?_)
theorem emendref2_Digits.mono : ∀ a0 k, LeO (emendref2_Digits.f k a0) (emendref2_Digits.f (k + 1) a0) := by
  intro a0 k
  obtain ⟨ih0, ih1⟩ := emendref2_Digits.mono_l k
  unfold emendref2_Digits.f
  repeat' first
      | (with_reducible exact ih0 _ _)
      | (with_reducible exact ih1 _ _ _)
      | (with_reducible exact LeO.refl _)
      | (with_reducible exact LeO.none _)
      | (with_reducible refine LeO.ite ?_ ?_)
      | (with_reducible refine LeO.bind ?_ (fun _ => ?_))
      | exact ih0 _ _
      | exact ih1 _ _ _
      | exact LeO.none _
      | refine LeO.ite ?_ ?_
      | refine LeO.bind ?_ (fun _ => ?_)
set_option maxHeartbeats 8000000 in
set_option maxRecDepth 100000 in
theorem emendref2_Digits.calls (k : Nat) (a0 : Int) (r : ByteArray) (w : World) (h : emendref2_Digits.f k a0 = some r) :
    Calls Tryd.prog 24 #[.int .i64 a0] w fun e w' => e = .returned (.string r) ∧ Below w.heap.size w w' := by
  have HB := Aside0.mk (Below.refl w.heap.size w)
  have H : (if 0 ≤ 281474976710656 then (emendref2_Digits.l0 k a0 (List.replicate 0 0)) else (none)) = some r := h
  clear h
  by_cases c2 : 0 ≤ 281474976710656
  · rw [if_pos c2] at H
    have c2b0 := eq_true c2
    have c2b1 : decide (0 ≤ 281474976710656) = true := decide_eq_true c2
    clear c2
    obtain ⟨y101, hy101⟩ : ∃ y_ : List Int, y_ = (List.replicate 0 0) := ⟨_, rfl⟩
    replace H : (emendref2_Digits.l0 k a0 y101) = some r := by first | (rw [hy101]; with_reducible exact H) | (have H2_ := (Option.bind_some _ _).symm.trans H; rw [hy101]; with_reducible exact H2_) | (have H2_ := (Option.bind_some _ _).symm.trans H; with_reducible exact H2_) | with_reducible exact H | (rw [hy101]; exact H) | exact H
    have Ny101 := Aside0.mk hy101
    clear hy101
    have H' := Aside0.mk H
    clear H
    go_enter Tryd.func24, Tryd.ntmps24
    go_wp2_with (first | ((with_reducible refine gate_dst (N := 6) rfl ?_); refine Kd.R_make (Kd.int .u8) _ 5 rfl (N := 6) rfl 50 _ _ rfl 0 rfl rfl Tryd.underlying50 (.int .u8 0) 1 info5 rfl (by decide) (by omega) 0 (ok := fun _ => True) (okp := fun _ => True) rfl (fun _ hk => hk) trivial (by omega) (by omega) (Below.refl _ _) (Nat.le_refl _) ?_; intro v102 w3 ho4 hb hg_ hnew_; clear hg_ hnew_; (first | rw [← Ny101.out] at ho4 | (simp only [Int.reduceToNat] at ho4; rw [← Ny101.out] at ho4)); have n0_ := Aside0.mk (Kd.R_lower ho4 (below_size (by repeat (first | (with_reducible first | exact HB.out | apply below_alloc | apply pw_below_drewN | apply below_drew1) | exact HB.out)))); have n1_ := Aside0.mk (below_step (by repeat (first | (with_reducible first | exact HB.out | apply below_alloc | apply pw_below_drewN | apply below_drew1) | exact HB.out)) hb); clear HB; have HO103 := n0_; have HB := n1_; clear n0_ n1_; clear hb ho4))
    go_loopg [0, 3] k (fun kq v0 v3 w' => ∃ (x0_1 : Int) (x3_1 : List Int), v0 = .int .i64 x0_1 ∧ Aside0 (emendref2_Digits.l0 kq x0_1 x3_1 = some r) ∧ Aside0 (kq ≤ k) ∧ Aside0 (Kd.R (Kd.int .u8) 5 w' w.heap.size (fun _ => True) v3 x3_1) ∧ Aside0 (Below w.heap.size w w'))
    case atStart => exact ⟨(a0), (y101), (by first | rfl | (simp; done) | (simp [*]; done)), H', ⟨Nat.le_refl _⟩, ⟨by (with_reducible repeat (first | apply Kd.R_alloc | apply Kd.R_drewN | apply Kd.R_drew)); exact HO103.out⟩, ⟨by repeat (first | (with_reducible first | exact HB.out | apply below_alloc | apply pw_below_drewN | apply below_drew1) | exact HB.out)⟩⟩
    case round =>
      clear H'
      try clear c2
      try clear c2b0
      try clear c2b1
      try clear p2
      obtain ⟨x0_1, x3_1, rfl, HA, HK1, HO_3, HB⟩ := hrel
      cases gk with
      | zero => exact absurd HA.out (by simp [emendref2_Digits.l0])
      | succ k1 =>
        have H := HA.out
        clear HA
        simp only [emendref2_Digits.l0] at H
        by_cases c5 : x0_1 > 9
        · rw [if_pos c5] at H
          have c5b0 : decide (9 < x0_1) = true := decide_eq_true c5
          clear c5
          by_cases c6 : x3_1.length < 140737488355328
          · rw [if_pos c6] at H
            have LMc6 := Aside0.mk c6
            clear c6
            obtain ⟨y104, hy104⟩ : ∃ y_ : List Int, y_ = (x3_1 ++ [(wrap64 (48 + (Int.tmod x0_1 10))) % 256]) := ⟨_, rfl⟩
            replace H : (emendref2_Digits.l0 k1 (wrap64 (Int.tdiv x0_1 10)) y104) = some r := by first | (rw [hy104]; with_reducible exact H) | (have H2_ := (Option.bind_some _ _).symm.trans H; rw [hy104]; with_reducible exact H2_) | (have H2_ := (Option.bind_some _ _).symm.trans H; with_reducible exact H2_) | with_reducible exact H | (rw [hy104]; exact H) | exact H
            have Ny104 := Aside0.mk hy104
            clear hy104
            have H' := Aside0.mk H
            clear H
            go_wp2_with (first | ((with_reducible refine gate_builtin (b := .append) (xs := #[.tmp 9, .tmp 14]) rfl ?_); at_builtin; refine Kd.R_append (Kd.int .u8) (w0 := w) w.heap.size rfl (.tmp 9) (.tmp 14) 50 5 (.int .u8 0) 1 rfl Tryd.underlying50 info5 rfl (by decide) (by omega) u3 x3_1 ((wrap64 (48 + (Int.tmod x0_1 10))) % 256) [.int .u8 ((wrap64 (48 + (Int.tmod x0_1 10))) % 256)] (fun _ => True) (fun _ => False) rfl rfl ?aP (fun _ hk => hk.elim) ?aF ?aO ?aB ?aS ?aL ?_; (case aP => exact rfl); (case aB => exact (by repeat (first | (with_reducible first | exact HB.out | apply below_alloc | apply pw_below_drewN | apply below_drew1) | exact HB.out))); (case aF => exact (fun _ _ => trivial)); (case aO => exact (by (with_reducible repeat (first | apply Kd.R_alloc | apply Kd.R_drewN | apply Kd.R_drew)); exact HO_3.out)); (case aS => exact (below_size (by repeat (first | (with_reducible first | exact HB.out | apply below_alloc | apply pw_below_drewN | apply below_drew1) | exact HB.out)))); (case aL => have := LMc6.out; omega); intro v105 w7 ho hb hg hat; rw [← Ny104.out] at ho; have n0_ := Aside0.mk (hb); have n1_ := Aside0.mk (ho); clear HB; clear HO_3; have HB := n0_; have HO106 := n1_; clear n0_ n1_; clear ho hb hg hat))
            go_roundg k1
            case measure => have := HK1.out; omega
            case rel => exact ⟨(wrap64 (Int.tdiv x0_1 10)), (y104), (by first | rfl | (simp; done) | (simp [*]; done)), H', ⟨by have := HK1.out; omega⟩, ⟨by (with_reducible repeat (first | apply Kd.R_alloc | apply Kd.R_drewN | apply Kd.R_drew)); exact HO106.out⟩, ⟨by repeat (first | (with_reducible first | exact HB.out | apply below_alloc | apply pw_below_drewN | apply below_drew1) | exact HB.out)⟩⟩
          · rw [if_neg c6] at H
            exact absurd H (by simp)
        · rw [if_neg c5] at H
          have c5b0 : decide (9 < x0_1) = false := decide_eq_false c5
          clear c5
          by_cases c8 : x3_1.length < 140737488355328
          · rw [if_pos c8] at H
            have LMc8 := Aside0.mk c8
            clear c8
            obtain ⟨y107, hy107⟩ : ∃ y_ : List Int, y_ = (x3_1 ++ [(wrap64 (48 + x0_1)) % 256]) := ⟨_, rfl⟩
            replace H : (if 0 ≤ 281474976710656 then (emendref2_Digits.l1 k1 y107 (List.replicate 0 0) (wrap64 ((y107.length : Int) - 1))) else (none)) = some r := by first | (rw [hy107]; with_reducible exact H) | (have H2_ := (Option.bind_some _ _).symm.trans H; rw [hy107]; with_reducible exact H2_) | (have H2_ := (Option.bind_some _ _).symm.trans H; with_reducible exact H2_) | with_reducible exact H | (rw [hy107]; exact H) | exact H
            have Ny107 := Aside0.mk hy107
            clear hy107
            by_cases c9 : 0 ≤ 281474976710656
            · rw [if_pos c9] at H
              have c9b0 := eq_true c9
              have c9b1 : decide (0 ≤ 281474976710656) = true := decide_eq_true c9
              clear c9
              obtain ⟨y110, hy110⟩ : ∃ y_ : List Int, y_ = (List.replicate 0 0) := ⟨_, rfl⟩
              replace H : (emendref2_Digits.l1 k1 y107 y110 (wrap64 ((y107.length : Int) - 1))) = some r := by first | (rw [hy110]; with_reducible exact H) | (have H2_ := (Option.bind_some _ _).symm.trans H; rw [hy110]; with_reducible exact H2_) | (have H2_ := (Option.bind_some _ _).symm.trans H; with_reducible exact H2_) | with_reducible exact H | (rw [hy110]; exact H) | exact H
              have Ny110 := Aside0.mk hy110
              clear hy110
              have H' := Aside0.mk H
              clear H
              go_wp2_with (first | ((with_reducible refine gate_builtin (b := .append) (xs := #[.tmp 18, .tmp 22]) rfl ?_); at_builtin; refine Kd.R_append (Kd.int .u8) (w0 := w) w.heap.size rfl (.tmp 18) (.tmp 22) 50 5 (.int .u8 0) 1 rfl Tryd.underlying50 info5 rfl (by decide) (by omega) u3 x3_1 ((wrap64 (48 + x0_1)) % 256) [.int .u8 ((wrap64 (48 + x0_1)) % 256)] (fun _ => True) (fun _ => False) rfl rfl ?aP (fun _ hk => hk.elim) ?aF ?aO ?aB ?aS ?aL ?_; (case aP => exact rfl); (case aB => exact (by repeat (first | (with_reducible first | exact HB.out | apply below_alloc | apply pw_below_drewN | apply below_drew1) | exact HB.out))); (case aF => exact (fun _ _ => trivial)); (case aO => exact (by (with_reducible repeat (first | apply Kd.R_alloc | apply Kd.R_drewN | apply Kd.R_drew)); exact HO_3.out)); (case aS => exact (below_size (by repeat (first | (with_reducible first | exact HB.out | apply below_alloc | apply pw_below_drewN | apply below_drew1) | exact HB.out)))); (case aL => have := LMc8.out; omega); intro v108 w10 ho hb hg hat; rw [← Ny107.out] at ho; have n0_ := Aside0.mk (hb); have n1_ := Aside0.mk (ho); clear HB; clear HO_3; have HB := n0_; have HO109 := n1_; clear n0_ n1_; clear ho hb hg hat) | ((with_reducible refine gate_dst (N := 24) rfl ?_); refine Kd.R_make (Kd.int .u8) _ 5 rfl (N := 24) rfl 50 _ _ rfl 0 rfl rfl Tryd.underlying50 (.int .u8 0) 1 info5 rfl (by decide) (by omega) 0 (ok := fun _ => True) (okp := fun _ => True) rfl (fun _ hk => hk) trivial (by omega) (by omega) (Below.refl _ _) (Nat.le_refl _) ?_; intro v111 w11 ho12 hb hg_ hnew_; clear hg_ hnew_; (first | rw [← Ny110.out] at ho12 | (simp only [Int.reduceToNat] at ho12; rw [← Ny110.out] at ho12)); have n0_ := Aside0.mk (Kd.R_elder' (by (with_reducible repeat (first | apply Kd.R_alloc | apply Kd.R_drewN | apply Kd.R_drew)); exact HO109.out) (Kd.R_base ho12) hb); have n1_ := Aside0.mk (Kd.R_lower (Kd.R_new' ho12 (Kd.R_lt (by (with_reducible repeat (first | apply Kd.R_alloc | apply Kd.R_drewN | apply Kd.R_drew)); exact HO109.out))) (below_size (by repeat (first | (with_reducible first | exact HB.out | apply below_alloc | apply pw_below_drewN | apply below_drew1) | exact HB.out)))); have n2_ := Aside0.mk (below_step (by repeat (first | (with_reducible first | exact HB.out | apply below_alloc | apply pw_below_drewN | apply below_drew1) | exact HB.out)) hb); clear HO109; clear HB; have HO109 := n0_; have HO112 := n1_; have HB := n2_; clear n0_ n1_ n2_; clear hb ho12; obtain ⟨Ao13, co13, eo13⟩ := Kd.R_slice HO109.out; subst eo13))
              go_loopg [4, 5] k1 (fun kq v4 v5 w' => ∃ (x4_2 : List Int) (x5_2 : Int), v5 = .int .i64 x5_2 ∧ Aside0 (emendref2_Digits.l1 kq y107 x4_2 x5_2 = some r) ∧ Aside0 (kq ≤ k1) ∧ Aside0 (Kd.R (Kd.int .u8) 5 w' w.heap.size (fun k_ => some k_ ≠ (v4 : Value).ownBlock) (.slice Ao13 y107.length co13) y107) ∧ Aside0 (Kd.R (Kd.int .u8) 5 w' w.heap.size (fun k_ => some k_ ≠ ((.slice Ao13 y107.length co13) : Value).ownBlock) v4 x4_2) ∧ Aside0 (Below w.heap.size w w'))
              case atStart => exact ⟨(y110), (wrap64 ((y107.length : Int) - 1)), (by first | rfl | (simp; done) | (simp [*]; done)), H', ⟨Nat.le_refl _⟩, ⟨by (with_reducible repeat (first | apply Kd.R_alloc | apply Kd.R_drewN | apply Kd.R_drew)); exact Kd.R_mono HO109.out (fun _ hk => hk.2)⟩, ⟨by (with_reducible repeat (first | apply Kd.R_alloc | apply Kd.R_drewN | apply Kd.R_drew)); exact Kd.R_mono HO112.out (fun _ hk => hk.2)⟩, ⟨by repeat (first | (with_reducible first | exact HB.out | apply below_alloc | apply pw_below_drewN | apply below_drew1) | exact HB.out)⟩⟩
              case round =>
                clear H'
                try clear c2
                try clear c2b0
                try clear c2b1
                try clear p2
                try clear c5
                try clear c5b0
                try clear c6
                try clear p6
                try clear c8
                try clear c9
                try clear c9b0
                try clear c9b1
                try clear p2
                obtain ⟨x4_2, x5_2, rfl, HA, HK2, HO_3, HO_4, HB⟩ := hrel
                cases gk with
                | zero => exact absurd HA.out (by simp [emendref2_Digits.l1])
                | succ k2 =>
                  have H := HA.out
                  clear HA
                  simp only [emendref2_Digits.l1] at H
                  by_cases c14 : x5_2 ≥ 0
                  · rw [if_pos c14] at H
                    have c14b0 : decide (0 ≤ x5_2) = true := decide_eq_true c14
                    clear c14
                    by_cases c15 : 0 ≤ x5_2
                    · rw [if_pos c15] at H
                      have c15b0 : decide (0 ≤ x5_2) = true := decide_eq_true c15
                      clear c15
                      by_cases c16 : x5_2 < (y107.length : Int)
                      · rw [if_pos c16] at H
                        have c16b0 : decide (x5_2 < (y107.length : Int)) = true := decide_eq_true c16
                        clear c16
                        by_cases c17 : x4_2.length < 140737488355328
                        · rw [if_pos c17] at H
                          have LMc17 := Aside0.mk c17
                          clear c17
                          obtain ⟨y114, hy114⟩ : ∃ y_ : List Int, y_ = (x4_2 ++ [rd y107 x5_2]) := ⟨_, rfl⟩
                          replace H : (emendref2_Digits.l1 k2 y107 y114 (wrap64 (x5_2 - 1))) = some r := by first | (rw [hy114]; with_reducible exact H) | (have H2_ := (Option.bind_some _ _).symm.trans H; rw [hy114]; with_reducible exact H2_) | (have H2_ := (Option.bind_some _ _).symm.trans H; with_reducible exact H2_) | with_reducible exact H | (rw [hy114]; exact H) | exact H
                          have Ny114 := Aside0.mk hy114
                          clear hy114
                          have H' := Aside0.mk H
                          clear H
                          have p113 : 0 ≤ (x5_2 : Int) := of_decide_eq_true (by first | (with_reducible assumption) | assumption)
                          have q113 : x5_2 < (y107.length : Int) := of_decide_eq_true (by first | (with_reducible assumption) | assumption)
                          obtain ⟨ad113, e113, hx113_0⟩ := Kd.at_int (Kd.R_reads' HO_3.out).2.2 x5_2 p113 q113
                          cases e113
                          replace p113 := eq_true p113
                          replace q113 := eq_true q113
                          go_wp2_with (first | ((with_reducible refine gate_builtin (b := .append) (xs := #[.tmp 32, .tmp 37]) rfl ?_); at_builtin; refine Kd.R_append (Kd.int .u8) (w0 := w) w.heap.size rfl (.tmp 32) (.tmp 37) 50 5 (.int .u8 0) 1 rfl Tryd.underlying50 info5 rfl (by decide) (by omega) u4 x4_2 (rd y107 x5_2) [.int .u8 (rd y107 x5_2)] (fun k_ => some k_ ≠ (.slice (some ad113) y107.length co13 : Value).ownBlock) (fun _ => False) rfl rfl ?aP (fun _ hk => hk.elim) ?aF ?aO ?aB ?aS ?aL ?_; (case aP => exact rfl); (case aB => exact (by repeat (first | (with_reducible first | exact HB.out | apply below_alloc | apply pw_below_drewN | apply below_drew1) | exact HB.out))); (case aF => exact (fun k_ hk => Kd.fresh' (Kd.R_lt (by (with_reducible repeat (first | apply Kd.R_alloc | apply Kd.R_drewN | apply Kd.R_drew)); exact HO_3.out)) k_ hk)); (case aO => exact (by (with_reducible repeat (first | apply Kd.R_alloc | apply Kd.R_drewN | apply Kd.R_drew)); exact HO_4.out)); (case aS => exact (below_size (by repeat (first | (with_reducible first | exact HB.out | apply below_alloc | apply pw_below_drewN | apply below_drew1) | exact HB.out)))); (case aL => have := LMc17.out; omega); intro v115 w18 ho hb hg hat; rw [← Ny114.out] at ho; have n0_ := Aside0.mk (Kd.R_after (ok := (fun _ => True)) (by (with_reducible repeat (first | apply Kd.R_alloc | apply Kd.R_drewN | apply Kd.R_drew)); exact Kd.R_mono HO_3.out (fun _ hk => ⟨trivial, hk⟩)) hg hat); have n1_ := Aside0.mk (hb); have n2_ := Aside0.mk (ho); clear HO_3; clear HB; clear HO_4; have HO_3 := n0_; have HB := n1_; have HO116 := n2_; clear n0_ n1_ n2_; clear ho hb hg hat))
                          go_roundg k2
                          case measure => have := HK1.out; have := HK2.out; omega
                          case rel => exact ⟨(y114), (wrap64 (x5_2 - 1)), (by first | rfl | (simp; done) | (simp [*]; done)), H', ⟨by have := HK1.out; have := HK2.out; omega⟩, ⟨by (with_reducible repeat (first | apply Kd.R_alloc | apply Kd.R_drewN | apply Kd.R_drew)); exact Kd.R_mono HO_3.out (fun _ hk => hk.2)⟩, ⟨by (with_reducible repeat (first | apply Kd.R_alloc | apply Kd.R_drewN | apply Kd.R_drew)); exact HO116.out⟩, ⟨by repeat (first | (with_reducible first | exact HB.out | apply below_alloc | apply pw_below_drewN | apply below_drew1) | exact HB.out)⟩⟩
                        · rw [if_neg c17] at H
                          exact absurd H (by simp)
                      · rw [if_neg c16] at H
                        exact absurd H (by simp)
                    · rw [if_neg c15] at H
                      exact absurd H (by simp)
                  · rw [if_neg c14] at H
                    have c14b0 : decide (0 ≤ x5_2) = false := decide_eq_false c14
                    clear c14
                    obtain rfl := Option.some.inj H
                    have hcv19 := own_string (P := Tryd.prog) Tryd.underlying50 Tryd.underlying5 Tryd.underlying9 (Kd.own_of_R HO_4.out)
                    go_wp2
                    go_ret
                    exact ⟨by first | rfl | (simp [errW_none, errW_some] <;> rfl) | (simp [*, errW_none, errW_some] <;> rfl), by repeat (first | (with_reducible first | exact HB.out | apply below_alloc | apply pw_below_drewN | apply below_drew1) | exact HB.out)⟩
            · rw [if_neg c9] at H
              exact absurd H (by simp)
          · rw [if_neg c8] at H
            exact absurd H (by simp)
  · rw [if_neg c2] at H
    exact absurd H (by simp)

/-! ### num_Split: function 25 -/
def num_Split.f (a0 : ByteArray) : Option (Bool × ByteArray × Int × Int) := if a0.size ≤ 50000 then some ((splitL a0.data.toList).1.1, B (splitL a0.data.toList).1.2.1, (splitL a0.data.toList).1.2.2, (splitL a0.data.toList).2) else none
theorem num_Split.calls (a0 : ByteArray) (r1 : Bool) (r2 : ByteArray) (r3 : Int) (r4 : Int) (w : World) (h : num_Split.f a0 = some (r1, r2, r3, r4)) : Calls Tryd.prog 25 #[.string a0] w fun e w' => e = .returned (.tuple #[.agg #[.bool r1, .string r2, .int .i64 r3], .int .i64 r4]) ∧ Below w.heap.size w w' := by
  unfold num_Split.f at h
  split at h
  · rename_i hb
    injection h with h
    injection h with h1 h
    injection h with h2 h
    injection h with h3 h4
    subst h1 h2 h3 h4
    have h1 := split_any a0.data.toList w (by have e : a0.data.toList.length = a0.size := rfl; omega)
    unfold partsV at h1
    simp only [B_of] at h1
    exact h1
  · cases h

/-! ### emendlaw2_NumScaled: function 9 -/
mutual
def emendlaw2_NumScaled.j0 : Nat → Int → Int → Int → Int → Option (Bool)
  | 0, _, _, _, _ => none
  | k + 1, x0, x1, x2, x3 => (emendref2_Decimal.f x0).bind fun t117 => (if t117.size + 1 ≤ 9223372036854775807 then ((emendref2_Digits.f k x1).bind fun t118 => (if (t117 ++ (⟨#[46]⟩ : ByteArray)).size + t118.size ≤ 9223372036854775807 then (if ((t117 ++ (⟨#[46]⟩ : ByteArray)) ++ t118).size + 1 ≤ 9223372036854775807 then ((emendref2_Decimal.f (Int.tmod x2 1000)).bind fun t119 => (if (((t117 ++ (⟨#[46]⟩ : ByteArray)) ++ t118) ++ (⟨#[101]⟩ : ByteArray)).size + t119.size ≤ 9223372036854775807 then ((num_Split.f ((((t117 ++ (⟨#[46]⟩ : ByteArray)) ++ t118) ++ (⟨#[101]⟩ : ByteArray)) ++ t119)).bind fun bt120 => ((emendref2_Decimal.f (wrap64 ((Int.tmod x2 1000) + (Int.tmod x3 1000)))).bind fun t125 => (if (((t117 ++ (⟨#[46]⟩ : ByteArray)) ++ t118) ++ (⟨#[69]⟩ : ByteArray)).size + t125.size ≤ 9223372036854775807 then ((num_Split.f ((((t117 ++ (⟨#[46]⟩ : ByteArray)) ++ t118) ++ (⟨#[69]⟩ : ByteArray)) ++ t125)).bind fun bt126 => (if bt120.2.2.2 = 0 then (emendlaw2_NumScaled.j1 k (Int.tmod x3 1000) (bt126.2.2.2 != 0) bt120.1 bt120.2.1 bt120.2.2.1 bt126.1 bt126.2.1 bt126.2.2.1) else (emendlaw2_NumScaled.j1 k (Int.tmod x3 1000) true bt120.1 bt120.2.1 bt120.2.2.1 bt126.1 bt126.2.1 bt126.2.2.1))) else (none)))) else (none))) else (none)) else (none))) else (none))
def emendlaw2_NumScaled.j1 : Nat → Int → Bool → Bool → ByteArray → Int → Bool → ByteArray → Int → Option (Bool)
  | 0, _, _, _, _, _, _, _, _ => none
  | k + 1, x3, x53, x125000, x125001, x125002, x131000, x131001, x131002 => if x53 = true then (some false) else (if x125001.toList = ([] : List UInt8) then (if (x131000 == x125000 && (x131001.toList == x125001.toList && (x131002 == x125002))) = true then ((emendlaw2_NumRuns.f).bind fun t131 => (some t131)) else (some false)) else (if (x125000 == x131000 && (x125001.toList == x131001.toList && ((wrap64 (x125002 + x3)) == x131002))) = true then ((emendlaw2_NumRuns.f).bind fun t132 => (some t132)) else (some false)))
end
def emendlaw2_NumScaled.f (k : Nat) (a0 : Int) (a1 : Int) (a2 : Int) (a3 : Int) : Option (Bool) := if a1 < 0 then (emendlaw2_NumScaled.j0 k a0 (wrap64 ((-1) - a1)) a2 a3) else (emendlaw2_NumScaled.j0 k a0 a1 a2 a3)
theorem emendlaw2_NumScaled.mono_l : ∀ k, (∀ y0 y1 y2 y3, LeO (emendlaw2_NumScaled.j0 k y0 y1 y2 y3) (emendlaw2_NumScaled.j0 (k + 1) y0 y1 y2 y3)) ∧ (∀ y0 y1 y2 y3 y4 y5 y6 y7, LeO (emendlaw2_NumScaled.j1 k y0 y1 y2 y3 y4 y5 y6 y7) (emendlaw2_NumScaled.j1 (k + 1) y0 y1 y2 y3 y4 y5 y6 y7))
  | 0 => ⟨fun _ _ _ _ r h => by simp [emendlaw2_NumScaled.j0] at h, fun _ _ _ _ _ _ _ _ r h => by simp [emendlaw2_NumScaled.j1] at h⟩
  | k + 1 => by
    obtain ⟨ih0, ih1⟩ := emendlaw2_NumScaled.mono_l k
    refine ⟨?_, ?_⟩
    · intro y0 y1 y2 y3
      unfold emendlaw2_NumScaled.j0
      repeat' first
      | (with_reducible exact ih0 _ _ _ _)
      | (with_reducible exact ih1 _ _ _ _ _ _ _ _)
      | (with_reducible exact emendref2_Digits.mono _ _)
      | (with_reducible exact LeO.refl _)
      | (with_reducible exact LeO.none _)
      | (with_reducible refine LeO.ite ?_ ?_)
      | (with_reducible refine LeO.bind ?_ (fun _ => ?_))
      | exact ih0 _ _ _ _
      | exact ih1 _ _ _ _ _ _ _ _
      | exact emendref2_Digits.mono _ _
      | exact LeO.none _
      | refine LeO.ite ?_ ?_
      | refine LeO.bind ?_ (fun _ => ?_)
    · intro y0 y1 y2 y3 y4 y5 y6 y7
      unfold emendlaw2_NumScaled.j1
      repeat' first
      | (with_reducible exact ih0 _ _ _ _)
      | (with_reducible exact ih1 _ _ _ _ _ _ _ _)
      | (with_reducible exact emendref2_Digits.mono _ _)
      | (with_reducible exact LeO.refl _)
      | (with_reducible exact LeO.none _)
      | (with_reducible refine LeO.ite ?_ ?_)
      | (with_reducible refine LeO.bind ?_ (fun _ => ?_))
      | exact ih0 _ _ _ _
      | exact ih1 _ _ _ _ _ _ _ _
      | exact emendref2_Digits.mono _ _
      | exact LeO.none _
      | refine LeO.ite ?_ ?_
      | refine LeO.bind ?_ (fun _ => ?_)
theorem emendlaw2_NumScaled.mono : ∀ a0 a1 a2 a3 k, LeO (emendlaw2_NumScaled.f k a0 a1 a2 a3) (emendlaw2_NumScaled.f (k + 1) a0 a1 a2 a3) := by
  intro a0 a1 a2 a3 k
  obtain ⟨ih0, ih1⟩ := emendlaw2_NumScaled.mono_l k
  unfold emendlaw2_NumScaled.f
  repeat' first
      | (with_reducible exact ih0 _ _ _ _)
      | (with_reducible exact ih1 _ _ _ _ _ _ _ _)
      | (with_reducible exact emendref2_Digits.mono _ _)
      | (with_reducible exact LeO.refl _)
      | (with_reducible exact LeO.none _)
      | (with_reducible refine LeO.ite ?_ ?_)
      | (with_reducible refine LeO.bind ?_ (fun _ => ?_))
      | exact ih0 _ _ _ _
      | exact ih1 _ _ _ _ _ _ _ _
      | exact emendref2_Digits.mono _ _
      | exact LeO.none _
      | refine LeO.ite ?_ ?_
      | refine LeO.bind ?_ (fun _ => ?_)
set_option maxHeartbeats 8000000 in
set_option maxRecDepth 100000 in
theorem emendlaw2_NumScaled.calls (k : Nat) (a0 : Int) (a1 : Int) (a2 : Int) (a3 : Int) (r : Bool) (w : World) (he : Env w) (h : emendlaw2_NumScaled.f k a0 a1 a2 a3 = some r) :
    Calls Tryd.prog 9 #[.int .i64 a0, .int .i64 a1, .int .i64 a2, .int .i64 a3] w fun e w' => e = .returned (.bool r) ∧ Below w.heap.size w w' := by
  have HEnv := Aside0.mk he
  clear he
  have hu32 := Tryd.underlying32
  have HB := Aside0.mk (Below.refl w.heap.size w)
  have H : (if a1 < 0 then (emendlaw2_NumScaled.j0 k a0 (wrap64 ((-1) - a1)) a2 a3) else (emendlaw2_NumScaled.j0 k a0 a1 a2 a3)) = some r := h
  clear h
  have HC5 := Aside0.mk H
  clear H
  go_enter Tryd.func9, Tryd.ntmps9
  go_upto_if 15 with (fail)
  go_cut [1] (fun v1 wc => ∃ (kq : Nat) (x1_4 : Int), v1 = .int .i64 x1_4 ∧ Aside0 (emendlaw2_NumScaled.j0 kq a0 x1_4 a2 a3 = some r) ∧ Aside0 (kq ≤ k) ∧ Aside0 (Below w.heap.size w wc))
  case first =>
    have H := HC5.out
    clear HC5
    by_cases c6 : a1 < 0
    · rw [if_pos c6] at H
      have c6b0 : decide (a1 < 0) = true := decide_eq_true c6
      clear c6
      (first | rw [c6b0] | (simp only [i64_w, i32_w]; rw [c6b0]) | skip)
      have H' := Aside0.mk H
      clear H
      go_wp2
      go_meet
      case rel => exact ⟨_, (wrap64 ((-1) - a1)), (by first | rfl | (simp; done) | (simp [*]; done)), H', ⟨by first | omega | exact Nat.le_refl _⟩, ⟨by repeat (first | (with_reducible first | exact HB.out | apply below_alloc | apply pw_below_drewN | apply below_drew1) | exact HB.out)⟩⟩
    · rw [if_neg c6] at H
      have c6b0 : decide (a1 < 0) = false := decide_eq_false c6
      clear c6
      (first | rw [c6b0] | (simp only [i64_w, i32_w]; rw [c6b0]) | skip)
      have H' := Aside0.mk H
      clear H
      go_wp2
      go_meet
      case rel => exact ⟨_, (a1), (by first | rfl | (simp; done) | (simp [*]; done)), H', ⟨by first | omega | exact Nat.le_refl _⟩, ⟨by repeat (first | (with_reducible first | exact HB.out | apply below_alloc | apply pw_below_drewN | apply below_drew1) | exact HB.out)⟩⟩
  case rest =>
    clear HC5
    try clear p2
    try clear c6
    try clear c6b0
    try clear p6
    obtain ⟨kq, x1_4, rfl, HA, HJ4, HB⟩ := hcut
    cases kq with
    | zero => exact absurd HA.out (by simp [emendlaw2_NumScaled.j0])
    | succ kj4 =>
      have H := HA.out
      clear HA
      simp only [emendlaw2_NumScaled.j0] at H
      replace H := Option.bind_eq_some_iff.mp H
      obtain ⟨t117, A70, H⟩ := H
      replace H : (if t117.size + 1 ≤ 9223372036854775807 then ((emendref2_Digits.f kj4 x1_4).bind fun t118 => (if (t117 ++ (⟨#[46]⟩ : ByteArray)).size + t118.size ≤ 9223372036854775807 then (if ((t117 ++ (⟨#[46]⟩ : ByteArray)) ++ t118).size + 1 ≤ 9223372036854775807 then ((emendref2_Decimal.f (Int.tmod a2 1000)).bind fun t119 => (if (((t117 ++ (⟨#[46]⟩ : ByteArray)) ++ t118) ++ (⟨#[101]⟩ : ByteArray)).size + t119.size ≤ 9223372036854775807 then ((num_Split.f ((((t117 ++ (⟨#[46]⟩ : ByteArray)) ++ t118) ++ (⟨#[101]⟩ : ByteArray)) ++ t119)).bind fun bt120 => ((emendref2_Decimal.f (wrap64 ((Int.tmod a2 1000) + (Int.tmod a3 1000)))).bind fun t125 => (if (((t117 ++ (⟨#[46]⟩ : ByteArray)) ++ t118) ++ (⟨#[69]⟩ : ByteArray)).size + t125.size ≤ 9223372036854775807 then ((num_Split.f ((((t117 ++ (⟨#[46]⟩ : ByteArray)) ++ t118) ++ (⟨#[69]⟩ : ByteArray)) ++ t125)).bind fun bt126 => (if bt120.2.2.2 = 0 then (emendlaw2_NumScaled.j1 kj4 (Int.tmod a3 1000) (bt126.2.2.2 != 0) bt120.1 bt120.2.1 bt120.2.2.1 bt126.1 bt126.2.1 bt126.2.2.1) else (emendlaw2_NumScaled.j1 kj4 (Int.tmod a3 1000) true bt120.1 bt120.2.1 bt120.2.2.1 bt126.1 bt126.2.1 bt126.2.2.1))) else (none)))) else (none))) else (none)) else (none))) else (none)) = some r := H
      have A7 := Aside0.mk A70
      clear A70
      by_cases c8 : t117.size + 1 ≤ 9223372036854775807
      · rw [if_pos c8] at H
        have c8b0 := eq_true c8
        have c8b1 : decide (t117.size + 1 ≤ 9223372036854775807) = true := decide_eq_true c8
        try have c8b2 : (9223372036854775807 < t117.size + 1) = False := eq_false (Nat.not_lt.2 c8)
        replace H := Option.bind_eq_some_iff.mp H
        obtain ⟨t118, A90, H⟩ := H
        replace H : (if (t117 ++ (⟨#[46]⟩ : ByteArray)).size + t118.size ≤ 9223372036854775807 then (if ((t117 ++ (⟨#[46]⟩ : ByteArray)) ++ t118).size + 1 ≤ 9223372036854775807 then ((emendref2_Decimal.f (Int.tmod a2 1000)).bind fun t119 => (if (((t117 ++ (⟨#[46]⟩ : ByteArray)) ++ t118) ++ (⟨#[101]⟩ : ByteArray)).size + t119.size ≤ 9223372036854775807 then ((num_Split.f ((((t117 ++ (⟨#[46]⟩ : ByteArray)) ++ t118) ++ (⟨#[101]⟩ : ByteArray)) ++ t119)).bind fun bt120 => ((emendref2_Decimal.f (wrap64 ((Int.tmod a2 1000) + (Int.tmod a3 1000)))).bind fun t125 => (if (((t117 ++ (⟨#[46]⟩ : ByteArray)) ++ t118) ++ (⟨#[69]⟩ : ByteArray)).size + t125.size ≤ 9223372036854775807 then ((num_Split.f ((((t117 ++ (⟨#[46]⟩ : ByteArray)) ++ t118) ++ (⟨#[69]⟩ : ByteArray)) ++ t125)).bind fun bt126 => (if bt120.2.2.2 = 0 then (emendlaw2_NumScaled.j1 kj4 (Int.tmod a3 1000) (bt126.2.2.2 != 0) bt120.1 bt120.2.1 bt120.2.2.1 bt126.1 bt126.2.1 bt126.2.2.1) else (emendlaw2_NumScaled.j1 kj4 (Int.tmod a3 1000) true bt120.1 bt120.2.1 bt120.2.2.1 bt126.1 bt126.2.1 bt126.2.2.1))) else (none)))) else (none))) else (none)) else (none)) = some r := H
        have A9 := Aside0.mk A90
        clear A90
        by_cases c10 : (t117 ++ (⟨#[46]⟩ : ByteArray)).size + t118.size ≤ 9223372036854775807
        · rw [if_pos c10] at H
          have c10b0 := eq_true c10
          have c10b1 : decide ((t117 ++ (⟨#[46]⟩ : ByteArray)).size + t118.size ≤ 9223372036854775807) = true := decide_eq_true c10
          try have c10b1s := c10b1
          try simp only [ByteArray.size_append, show (⟨#[46]⟩ : ByteArray).size = 1 from rfl] at c10b1s
          try have c10b1t := c10b1s
          try push_cast at c10b1t
          try have c10b2 : (9223372036854775807 < (t117 ++ (⟨#[46]⟩ : ByteArray)).size + t118.size) = False := eq_false (Nat.not_lt.2 c10)
          try have c10b2s := c10b2
          try simp only [ByteArray.size_append, show (⟨#[46]⟩ : ByteArray).size = 1 from rfl] at c10b2s
          try have c10b2t := c10b2s
          try push_cast at c10b2t
          by_cases c11 : ((t117 ++ (⟨#[46]⟩ : ByteArray)) ++ t118).size + 1 ≤ 9223372036854775807
          · rw [if_pos c11] at H
            have c11b0 := eq_true c11
            have c11b1 : decide (((t117 ++ (⟨#[46]⟩ : ByteArray)) ++ t118).size + 1 ≤ 9223372036854775807) = true := decide_eq_true c11
            try have c11b1s := c11b1
            try simp only [ByteArray.size_append, show (⟨#[46]⟩ : ByteArray).size = 1 from rfl] at c11b1s
            try have c11b1t := c11b1s
            try push_cast at c11b1t
            try have c11b2 : (9223372036854775807 < ((t117 ++ (⟨#[46]⟩ : ByteArray)) ++ t118).size + 1) = False := eq_false (Nat.not_lt.2 c11)
            try have c11b2s := c11b2
            try simp only [ByteArray.size_append, show (⟨#[46]⟩ : ByteArray).size = 1 from rfl] at c11b2s
            try have c11b2t := c11b2s
            try push_cast at c11b2t
            replace H := Option.bind_eq_some_iff.mp H
            obtain ⟨t119, A120, H⟩ := H
            replace H : (if (((t117 ++ (⟨#[46]⟩ : ByteArray)) ++ t118) ++ (⟨#[101]⟩ : ByteArray)).size + t119.size ≤ 9223372036854775807 then ((num_Split.f ((((t117 ++ (⟨#[46]⟩ : ByteArray)) ++ t118) ++ (⟨#[101]⟩ : ByteArray)) ++ t119)).bind fun bt120 => ((emendref2_Decimal.f (wrap64 ((Int.tmod a2 1000) + (Int.tmod a3 1000)))).bind fun t125 => (if (((t117 ++ (⟨#[46]⟩ : ByteArray)) ++ t118) ++ (⟨#[69]⟩ : ByteArray)).size + t125.size ≤ 9223372036854775807 then ((num_Split.f ((((t117 ++ (⟨#[46]⟩ : ByteArray)) ++ t118) ++ (⟨#[69]⟩ : ByteArray)) ++ t125)).bind fun bt126 => (if bt120.2.2.2 = 0 then (emendlaw2_NumScaled.j1 kj4 (Int.tmod a3 1000) (bt126.2.2.2 != 0) bt120.1 bt120.2.1 bt120.2.2.1 bt126.1 bt126.2.1 bt126.2.2.1) else (emendlaw2_NumScaled.j1 kj4 (Int.tmod a3 1000) true bt120.1 bt120.2.1 bt120.2.2.1 bt126.1 bt126.2.1 bt126.2.2.1))) else (none)))) else (none)) = some r := H
            have A12 := Aside0.mk A120
            clear A120
            by_cases c13 : (((t117 ++ (⟨#[46]⟩ : ByteArray)) ++ t118) ++ (⟨#[101]⟩ : ByteArray)).size + t119.size ≤ 9223372036854775807
            · rw [if_pos c13] at H
              have c13b0 := eq_true c13
              have c13b1 : decide ((((t117 ++ (⟨#[46]⟩ : ByteArray)) ++ t118) ++ (⟨#[101]⟩ : ByteArray)).size + t119.size ≤ 9223372036854775807) = true := decide_eq_true c13
              try have c13b1s := c13b1
              try simp only [ByteArray.size_append, show (⟨#[101]⟩ : ByteArray).size = 1 from rfl, show (⟨#[46]⟩ : ByteArray).size = 1 from rfl] at c13b1s
              try have c13b1t := c13b1s
              try push_cast at c13b1t
              try have c13b2 : (9223372036854775807 < (((t117 ++ (⟨#[46]⟩ : ByteArray)) ++ t118) ++ (⟨#[101]⟩ : ByteArray)).size + t119.size) = False := eq_false (Nat.not_lt.2 c13)
              try have c13b2s := c13b2
              try simp only [ByteArray.size_append, show (⟨#[101]⟩ : ByteArray).size = 1 from rfl, show (⟨#[46]⟩ : ByteArray).size = 1 from rfl] at c13b2s
              try have c13b2t := c13b2s
              try push_cast at c13b2t
              replace H := Option.bind_eq_some_iff.mp H
              obtain ⟨⟨t120, t121, t122, t123⟩, A140, H⟩ := H
              replace H : ((emendref2_Decimal.f (wrap64 ((Int.tmod a2 1000) + (Int.tmod a3 1000)))).bind fun t125 => (if (((t117 ++ (⟨#[46]⟩ : ByteArray)) ++ t118) ++ (⟨#[69]⟩ : ByteArray)).size + t125.size ≤ 9223372036854775807 then ((num_Split.f ((((t117 ++ (⟨#[46]⟩ : ByteArray)) ++ t118) ++ (⟨#[69]⟩ : ByteArray)) ++ t125)).bind fun bt126 => (if t123 = 0 then (emendlaw2_NumScaled.j1 kj4 (Int.tmod a3 1000) (bt126.2.2.2 != 0) t120 t121 t122 bt126.1 bt126.2.1 bt126.2.2.1) else (emendlaw2_NumScaled.j1 kj4 (Int.tmod a3 1000) true t120 t121 t122 bt126.1 bt126.2.1 bt126.2.2.1))) else (none))) = some r := H
              have A14 := Aside0.mk A140
              clear A140
              replace H := Option.bind_eq_some_iff.mp H
              obtain ⟨t125, A150, H⟩ := H
              replace H : (if (((t117 ++ (⟨#[46]⟩ : ByteArray)) ++ t118) ++ (⟨#[69]⟩ : ByteArray)).size + t125.size ≤ 9223372036854775807 then ((num_Split.f ((((t117 ++ (⟨#[46]⟩ : ByteArray)) ++ t118) ++ (⟨#[69]⟩ : ByteArray)) ++ t125)).bind fun bt126 => (if t123 = 0 then (emendlaw2_NumScaled.j1 kj4 (Int.tmod a3 1000) (bt126.2.2.2 != 0) t120 t121 t122 bt126.1 bt126.2.1 bt126.2.2.1) else (emendlaw2_NumScaled.j1 kj4 (Int.tmod a3 1000) true t120 t121 t122 bt126.1 bt126.2.1 bt126.2.2.1))) else (none)) = some r := H
              have A15 := Aside0.mk A150
              clear A150
              by_cases c16 : (((t117 ++ (⟨#[46]⟩ : ByteArray)) ++ t118) ++ (⟨#[69]⟩ : ByteArray)).size + t125.size ≤ 9223372036854775807
              · rw [if_pos c16] at H
                have c16b0 := eq_true c16
                have c16b1 : decide ((((t117 ++ (⟨#[46]⟩ : ByteArray)) ++ t118) ++ (⟨#[69]⟩ : ByteArray)).size + t125.size ≤ 9223372036854775807) = true := decide_eq_true c16
                try have c16b1s := c16b1
                try simp only [ByteArray.size_append, show (⟨#[46]⟩ : ByteArray).size = 1 from rfl, show (⟨#[69]⟩ : ByteArray).size = 1 from rfl] at c16b1s
                try have c16b1t := c16b1s
                try push_cast at c16b1t
                try have c16b2 : (9223372036854775807 < (((t117 ++ (⟨#[46]⟩ : ByteArray)) ++ t118) ++ (⟨#[69]⟩ : ByteArray)).size + t125.size) = False := eq_false (Nat.not_lt.2 c16)
                try have c16b2s := c16b2
                try simp only [ByteArray.size_append, show (⟨#[46]⟩ : ByteArray).size = 1 from rfl, show (⟨#[69]⟩ : ByteArray).size = 1 from rfl] at c16b2s
                try have c16b2t := c16b2s
                try push_cast at c16b2t
                replace H := Option.bind_eq_some_iff.mp H
                obtain ⟨⟨t126, t127, t128, t129⟩, A170, H⟩ := H
                replace H : (if t123 = 0 then (emendlaw2_NumScaled.j1 kj4 (Int.tmod a3 1000) (t129 != 0) t120 t121 t122 t126 t127 t128) else (emendlaw2_NumScaled.j1 kj4 (Int.tmod a3 1000) true t120 t121 t122 t126 t127 t128)) = some r := H
                have A17 := Aside0.mk A170
                clear A170
                have HC18 := Aside0.mk H
                clear H
                go_upto_region 8 with (first | ((with_reducible refine gate_callee (f := 21) rfl ?_); refine goesL_ (some 23) rfl rfl Tryd.func21 (by kernel_rfl) rfl #[.int .i64 a0] rfl (by (try simp only [List.map_toArray, List.map_cons, List.map_nil]); first | done | rfl | (simp only [List.length_drop, List.length_take]; rfl)) ?_; (with_reducible refine (emendref2_Decimal.calls a0 t117 _ A7.out).mono ?_); rintro e w19 ⟨rfl, hb⟩; refine ⟨_, rfl, ?_⟩; have n0_ := Aside0.mk (below_step (by repeat (first | (with_reducible first | exact HB.out | apply below_alloc | apply pw_below_drewN | apply below_drew1) | exact HB.out)) hb); clear HB; have HB := n0_; clear n0_; (try clear hb); (try clear hb2); (try clear hk); (try clear hi)) | ((with_reducible refine gate_callee (f := 24) rfl ?_); refine goesL_ (some 26) rfl rfl Tryd.func24 (by kernel_rfl) rfl #[.int .i64 x1_4] rfl (by (try simp only [List.map_toArray, List.map_cons, List.map_nil]); first | done | rfl | (simp only [List.length_drop, List.length_take]; rfl)) ?_; (with_reducible refine (emendref2_Digits.calls kj4 x1_4 t118 _ A9.out).mono ?_); rintro e w20 ⟨rfl, hb⟩; refine ⟨_, rfl, ?_⟩; have n0_ := Aside0.mk (below_step (by repeat (first | (with_reducible first | exact HB.out | apply below_alloc | apply pw_below_drewN | apply below_drew1) | exact HB.out)) hb); clear HB; have HB := n0_; clear n0_; (try clear hb); (try clear hb2); (try clear hk); (try clear hi)) | ((with_reducible refine gate_callee (f := 21) rfl ?_); refine goesL_ (some 32) rfl rfl Tryd.func21 (by kernel_rfl) rfl #[.int .i64 (Int.tmod a2 1000)] rfl (by (try simp only [List.map_toArray, List.map_cons, List.map_nil]); first | done | rfl | (simp only [List.length_drop, List.length_take]; rfl)) ?_; (with_reducible refine (emendref2_Decimal.calls (Int.tmod a2 1000) t119 _ A12.out).mono ?_); rintro e w21 ⟨rfl, hb⟩; refine ⟨_, rfl, ?_⟩; have n0_ := Aside0.mk (below_step (by repeat (first | (with_reducible first | exact HB.out | apply below_alloc | apply pw_below_drewN | apply below_drew1) | exact HB.out)) hb); clear HB; have HB := n0_; clear n0_; (try clear hb); (try clear hb2); (try clear hk); (try clear hi)) | ((with_reducible refine gate_callee (f := 25) rfl ?_); refine goesL_ (some 34) rfl rfl Tryd.func25 (by kernel_rfl) rfl #[.string ((((t117 ++ (⟨#[46]⟩ : ByteArray)) ++ t118) ++ (⟨#[101]⟩ : ByteArray)) ++ t119)] rfl (by (try simp only [List.map_toArray, List.map_cons, List.map_nil]); first | done | rfl | (simp only [List.length_drop, List.length_take]; rfl)) ?_; (with_reducible refine (num_Split.calls ((((t117 ++ (⟨#[46]⟩ : ByteArray)) ++ t118) ++ (⟨#[101]⟩ : ByteArray)) ++ t119) t120 t121 t122 t123 _ A14.out).mono ?_); rintro e w22 ⟨rfl, hb⟩; refine ⟨_, rfl, ?_⟩; have n0_ := Aside0.mk (below_step (by repeat (first | (with_reducible first | exact HB.out | apply below_alloc | apply pw_below_drewN | apply below_drew1) | exact HB.out)) hb); clear HB; have HB := n0_; clear n0_; (try clear hb); (try clear hb2); (try clear hk); (try clear hi)) | ((with_reducible refine gate_dst (N := 10) rfl ?_); refine box_event ?hg (N := 10) ?hd (cs := #[.bool false, .string (⟨#[]⟩ : ByteArray), .int .i64 0]) (t := 32) ?hr ?_; (case hd => rfl); (case hg => rfl); (case hr => first | (go_simp; done) | (go_simp; rfl)); intro gb124 hg w23 hbox hb; have n0_ := Aside0.mk (below_step (by repeat (first | (with_reducible first | exact HB.out | apply below_alloc | apply pw_below_drewN | apply below_drew1) | exact HB.out)) hb); have n1_ := Aside0.mk (hbox); have n2_ := Aside0.mk ((by rw [hg]; exact (below_size (by repeat (first | (with_reducible first | exact HB.out | apply below_alloc | apply pw_below_drewN | apply below_drew1) | exact HB.out))) : w.heap.size ≤ gb124)); have n3_ := Aside0.mk ((by rw [hg]; exact (below_size (by repeat (first | (with_reducible first | exact HB.out | apply below_alloc | apply pw_below_drewN | apply below_drew1) | exact HB.out))) : w.heap.size ≤ gb124)); clear HB; have HB := n0_; have BK124 := n1_; have GW124 := n2_; have GE124 := n3_; clear n0_ n1_ n2_ n3_; clear hb hbox hg; have hcz24_0 : w23.cell? ⟨gb124, 0, none⟩ = some (.bool false) := (blk_cell BK124.out 0).trans rfl; have hcz24_1 : w23.cell? ⟨gb124, 1, none⟩ = some (.string (⟨#[]⟩ : ByteArray)) := (blk_cell BK124.out 1).trans rfl; have hcz24_2 : w23.cell? ⟨gb124, 2, none⟩ = some (.int .i64 0) := (blk_cell BK124.out 2).trans rfl; have hfz24_0 := blk_frozen BK124.out 0; have hfz24_1 := blk_frozen BK124.out 1; have hfz24_2 := blk_frozen BK124.out 2) | ((with_reducible refine gate_callee (f := 21) rfl ?_); refine goesL_ (some 43) rfl rfl Tryd.func21 (by kernel_rfl) rfl #[.int .i64 (wrap64 ((Int.tmod a2 1000) + (Int.tmod a3 1000)))] rfl (by (try simp only [List.map_toArray, List.map_cons, List.map_nil]); first | done | rfl | (simp only [List.length_drop, List.length_take]; rfl)) ?_; (with_reducible refine (emendref2_Decimal.calls (wrap64 ((Int.tmod a2 1000) + (Int.tmod a3 1000))) t125 _ A15.out).mono ?_); rintro e w25 ⟨rfl, hb⟩; refine ⟨_, rfl, ?_⟩; have n0_ := Aside0.mk (blk_below (g := gb124) (o := .cells #[.bool t120, .string t121, .int .i64 t122] 32 (0, 0)) (by (with_reducible repeat (first | refine blk_drewN ?_ _ | refine blk_drew ?_ | refine blk_alloc ?_ _)); refine blk_put (cs := #[.bool t120, .string t121, .int .i64 0]) ?_ 2 _ rfl; (with_reducible repeat (first | refine blk_drewN ?_ _ | refine blk_drew ?_ | refine blk_alloc ?_ _)); refine blk_put (cs := #[.bool t120, .string (⟨#[]⟩ : ByteArray), .int .i64 0]) ?_ 1 _ rfl; (with_reducible repeat (first | refine blk_drewN ?_ _ | refine blk_drew ?_ | refine blk_alloc ?_ _)); refine blk_put (cs := #[.bool false, .string (⟨#[]⟩ : ByteArray), .int .i64 0]) ?_ 0 _ rfl; (with_reducible repeat (first | refine blk_drewN ?_ _ | refine blk_drew ?_ | refine blk_alloc ?_ _)); exact BK124.out) hb); have n1_ := Aside0.mk (below_step (by repeat (first | (with_reducible first | exact HB.out | apply below_alloc | apply pw_below_drewN | apply below_drew1 | refine below_set ?_ GE124.out) | exact HB.out)) hb); clear BK124; clear HB; have BK124 := n0_; have HB := n1_; clear n0_ n1_; (try clear hb); (try clear hb2); (try clear hk); (try clear hi)) | ((with_reducible refine gate_callee (f := 25) rfl ?_); refine goesL_ (some 45) rfl rfl Tryd.func25 (by kernel_rfl) rfl #[.string ((((t117 ++ (⟨#[46]⟩ : ByteArray)) ++ t118) ++ (⟨#[69]⟩ : ByteArray)) ++ t125)] rfl (by (try simp only [List.map_toArray, List.map_cons, List.map_nil]); first | done | rfl | (simp only [List.length_drop, List.length_take]; rfl)) ?_; (with_reducible refine (num_Split.calls ((((t117 ++ (⟨#[46]⟩ : ByteArray)) ++ t118) ++ (⟨#[69]⟩ : ByteArray)) ++ t125) t126 t127 t128 t129 _ A17.out).mono ?_); rintro e w26 ⟨rfl, hb⟩; refine ⟨_, rfl, ?_⟩; have n0_ := Aside0.mk (blk_below (g := gb124) (o := .cells #[.bool t120, .string t121, .int .i64 t122] 32 (0, 0)) (by (with_reducible repeat (first | refine blk_drewN ?_ _ | refine blk_drew ?_ | refine blk_alloc ?_ _)); exact BK124.out) hb); have n1_ := Aside0.mk (below_step (by repeat (first | (with_reducible first | exact HB.out | apply below_alloc | apply pw_below_drewN | apply below_drew1 | refine below_set ?_ GE124.out) | exact HB.out)) hb); clear BK124; clear HB; have BK124 := n0_; have HB := n1_; clear n0_ n1_; (try clear hb); (try clear hb2); (try clear hk); (try clear hi)) | ((with_reducible refine gate_dst (N := 12) rfl ?_); refine box_event ?hg (N := 12) ?hd (cs := #[.bool false, .string (⟨#[]⟩ : ByteArray), .int .i64 0]) (t := 32) ?hr ?_; (case hd => rfl); (case hg => rfl); (case hr => first | (go_simp; done) | (go_simp; rfl)); intro gb130 hg w27 hbox hb; have n0_ := Aside0.mk (blk_below (g := gb124) (o := .cells #[.bool t120, .string t121, .int .i64 t122] 32 (0, 0)) (by (with_reducible repeat (first | refine blk_drewN ?_ _ | refine blk_drew ?_ | refine blk_alloc ?_ _)); exact BK124.out) hb); have n1_ := Aside0.mk (below_step (by repeat (first | (with_reducible first | exact HB.out | apply below_alloc | apply pw_below_drewN | apply below_drew1 | refine below_set ?_ GE124.out) | exact HB.out)) hb); have n2_ := Aside0.mk (hbox); have n3_ := Aside0.mk ((by rw [hg]; exact (below_size (by repeat (first | (with_reducible first | exact HB.out | apply below_alloc | apply pw_below_drewN | apply below_drew1 | refine below_set ?_ GE124.out) | exact HB.out))) : w.heap.size ≤ gb130)); have n4_ := Aside0.mk ((by rw [hg]; exact (below_size (by repeat (first | (with_reducible first | exact HB.out | apply below_alloc | apply pw_below_drewN | apply below_drew1 | refine below_set ?_ GE124.out) | exact HB.out))) : w.heap.size ≤ gb130)); have n5_ := Aside0.mk ((by rw [hg]; exact Nat.ne_of_lt (blk_lt (g := gb124) (o := .cells #[.bool t120, .string t121, .int .i64 t122] 32 (0, 0)) (by (with_reducible repeat (first | refine blk_drewN ?_ _ | refine blk_drew ?_ | refine blk_alloc ?_ _)); exact BK124.out)) : gb124 ≠ gb130)); have n6_ := Aside0.mk ((by rw [hg]; exact Nat.ne_of_gt (blk_lt (g := gb124) (o := .cells #[.bool t120, .string t121, .int .i64 t122] 32 (0, 0)) (by (with_reducible repeat (first | refine blk_drewN ?_ _ | refine blk_drew ?_ | refine blk_alloc ?_ _)); exact BK124.out)) : gb130 ≠ gb124)); clear BK124; clear HB; have BK124 := n0_; have HB := n1_; have BK130 := n2_; have GW130 := n3_; have GE130 := n4_; have NB124_130 := n5_; have NB130_124 := n6_; clear n0_ n1_ n2_ n3_ n4_ n5_ n6_; clear hb hbox hg; have hnb28 := NB130_124.out; have hnc28 := NB124_130.out; have hcz29_0 : w27.cell? ⟨gb130, 0, none⟩ = some (.bool false) := (blk_cell BK130.out 0).trans rfl; have hcz29_1 : w27.cell? ⟨gb130, 1, none⟩ = some (.string (⟨#[]⟩ : ByteArray)) := (blk_cell BK130.out 1).trans rfl; have hcz29_2 : w27.cell? ⟨gb130, 2, none⟩ = some (.int .i64 0) := (blk_cell BK130.out 2).trans rfl; have hfz29_0 := blk_frozen BK130.out 0; have hfz29_1 := blk_frozen BK130.out 1; have hfz29_2 := blk_frozen BK130.out 2))
                (try simp only [Act.put, List.setIfInBounds_toArray, List.set_cons_zero, List.set_cons_succ])
                go_cut [53] (fun v53 wc => ∃ (kq : Nat) (x53_17 : Bool), v53 = .bool x53_17 ∧ Aside0 (emendlaw2_NumScaled.j1 kq (Int.tmod a3 1000) x53_17 t120 t121 t122 t126 t127 t128 = some r) ∧ Aside0 (kq ≤ kj4) ∧ Aside0 (wc.heap[gb124]? = some (.cells #[.bool t120, .string t121, .int .i64 t122] 32 (0, 0))) ∧ Aside0 (wc.heap[gb130]? = some (.cells #[.bool t126, .string t127, .int .i64 t128] 32 (0, 0))) ∧ Aside0 (Below w.heap.size w wc))
                case first =>
                  have H := HC18.out
                  clear HC18
                  by_cases c30 : t123 = 0
                  · rw [if_pos c30] at H
                    have c30b0 : (t123 == 0) = true := beq_iff_eq.mpr c30
                    have c30b1 : (t123 != 0) = false := bne_eq_false_iff_eq.mpr c30
                    clear c30
                    (first | rw [c30b0] | (simp only [i64_w, i32_w]; rw [c30b0]) | skip)
                    have H' := Aside0.mk H
                    clear H
                    go_wp2
                    go_meet
                    case rel => exact ⟨_, ((t129 != 0)), (by first | rfl | (simp; done) | (simp [*]; done)), H', ⟨by have := HJ4.out; first | omega | exact Nat.le_refl _⟩, ⟨by (with_reducible repeat (first | refine blk_drewN ?_ _ | refine blk_drew ?_ | refine blk_alloc ?_ _)); refine blk_far ?_ NB124_130.out _; (with_reducible repeat (first | refine blk_drewN ?_ _ | refine blk_drew ?_ | refine blk_alloc ?_ _)); refine blk_far ?_ NB124_130.out _; (with_reducible repeat (first | refine blk_drewN ?_ _ | refine blk_drew ?_ | refine blk_alloc ?_ _)); refine blk_far ?_ NB124_130.out _; (with_reducible repeat (first | refine blk_drewN ?_ _ | refine blk_drew ?_ | refine blk_alloc ?_ _)); exact BK124.out⟩, ⟨by (with_reducible repeat (first | refine blk_drewN ?_ _ | refine blk_drew ?_ | refine blk_alloc ?_ _)); refine blk_put (cs := #[.bool t126, .string t127, .int .i64 0]) ?_ 2 _ rfl; (with_reducible repeat (first | refine blk_drewN ?_ _ | refine blk_drew ?_ | refine blk_alloc ?_ _)); refine blk_put (cs := #[.bool t126, .string (⟨#[]⟩ : ByteArray), .int .i64 0]) ?_ 1 _ rfl; (with_reducible repeat (first | refine blk_drewN ?_ _ | refine blk_drew ?_ | refine blk_alloc ?_ _)); refine blk_put (cs := #[.bool false, .string (⟨#[]⟩ : ByteArray), .int .i64 0]) ?_ 0 _ rfl; (with_reducible repeat (first | refine blk_drewN ?_ _ | refine blk_drew ?_ | refine blk_alloc ?_ _)); exact BK130.out⟩, ⟨by repeat (first | (with_reducible first | exact HB.out | apply below_alloc | apply pw_below_drewN | apply below_drew1 | refine below_set ?_ GE124.out | refine below_set ?_ GE130.out) | exact HB.out)⟩⟩
                  · rw [if_neg c30] at H
                    have c30b0 : (t123 == 0) = false := beq_eq_false_iff_ne.mpr c30
                    have c30b1 : (t123 != 0) = true := bne_iff_ne.mpr c30
                    (first | rw [c30b0] | (simp only [i64_w, i32_w]; rw [c30b0]) | skip)
                    have H' := Aside0.mk H
                    clear H
                    go_wp2
                    go_meet
                    case rel => exact ⟨_, (true), (by first | rfl | (simp; done) | (simp [*]; done)), H', ⟨by have := HJ4.out; first | omega | exact Nat.le_refl _⟩, ⟨by (with_reducible repeat (first | refine blk_drewN ?_ _ | refine blk_drew ?_ | refine blk_alloc ?_ _)); refine blk_far ?_ NB124_130.out _; (with_reducible repeat (first | refine blk_drewN ?_ _ | refine blk_drew ?_ | refine blk_alloc ?_ _)); refine blk_far ?_ NB124_130.out _; (with_reducible repeat (first | refine blk_drewN ?_ _ | refine blk_drew ?_ | refine blk_alloc ?_ _)); refine blk_far ?_ NB124_130.out _; (with_reducible repeat (first | refine blk_drewN ?_ _ | refine blk_drew ?_ | refine blk_alloc ?_ _)); exact BK124.out⟩, ⟨by (with_reducible repeat (first | refine blk_drewN ?_ _ | refine blk_drew ?_ | refine blk_alloc ?_ _)); refine blk_put (cs := #[.bool t126, .string t127, .int .i64 0]) ?_ 2 _ rfl; (with_reducible repeat (first | refine blk_drewN ?_ _ | refine blk_drew ?_ | refine blk_alloc ?_ _)); refine blk_put (cs := #[.bool t126, .string (⟨#[]⟩ : ByteArray), .int .i64 0]) ?_ 1 _ rfl; (with_reducible repeat (first | refine blk_drewN ?_ _ | refine blk_drew ?_ | refine blk_alloc ?_ _)); refine blk_put (cs := #[.bool false, .string (⟨#[]⟩ : ByteArray), .int .i64 0]) ?_ 0 _ rfl; (with_reducible repeat (first | refine blk_drewN ?_ _ | refine blk_drew ?_ | refine blk_alloc ?_ _)); exact BK130.out⟩, ⟨by repeat (first | (with_reducible first | exact HB.out | apply below_alloc | apply pw_below_drewN | apply below_drew1 | refine below_set ?_ GE124.out | refine below_set ?_ GE130.out) | exact HB.out)⟩⟩
                case rest =>
                  clear HC18
                  try clear c1
                  try clear c2
                  try clear p2
                  try clear c3
                  try clear c6
                  try clear c6b0
                  try clear p6
                  try clear c8
                  try clear c8b0
                  try clear c8b1
                  try clear c8b2
                  try clear c9
                  try clear c10
                  try clear c10b0
                  try clear c10b1
                  try clear c10b2
                  try clear c11
                  try clear c11b0
                  try clear c11b1
                  try clear c11b2
                  try clear c13
                  try clear c13b0
                  try clear c13b1
                  try clear c13b2
                  try clear c16
                  try clear c16b0
                  try clear c16b1
                  try clear c16b2
                  try clear c21
                  try clear c24
                  try clear c25
                  try clear c28
                  try clear c30
                  try clear c30b0
                  try clear c30b1
                  try clear hcz24_0
                  try clear hcz24_1
                  try clear hcz24_2
                  try clear hcz29_0
                  try clear hcz29_1
                  try clear hcz29_2
                  try clear hfz24_0
                  try clear hfz24_1
                  try clear hfz24_2
                  try clear hfz29_0
                  try clear hfz29_1
                  try clear hfz29_2
                  try clear p2
                  try clear p6
                  obtain ⟨kq, x53_17, rfl, HA, HJ17, BK124, BK130, HB⟩ := hcut
                  cases kq with
                  | zero => exact absurd HA.out (by simp [emendlaw2_NumScaled.j1])
                  | succ kj17 =>
                    have H := HA.out
                    clear HA
                    simp only [emendlaw2_NumScaled.j1] at H
                    by_cases c31 : x53_17 = true
                    · subst c31
                      have H1 : (some false) = some r := by rw [if_pos rfl] at H; exact H
                      clear H
                      have H := H1
                      clear H1
                      obtain rfl := Option.some.inj H
                      go_wp2
                      go_ret
                      exact ⟨by first | rfl | (simp [errW_none, errW_some] <;> rfl) | (simp [*, errW_none, errW_some] <;> rfl), by repeat (first | (with_reducible first | exact HB.out | apply below_alloc | apply pw_below_drewN | apply below_drew1 | refine below_set ?_ GE124.out | refine below_set ?_ GE130.out) | exact HB.out)⟩
                    · replace c31 := Bool.eq_false_iff.mpr c31
                      subst c31
                      have H1 : (if t121.toList = ([] : List UInt8) then (if (t126 == t120 && (t127.toList == t121.toList && (t128 == t122))) = true then ((emendlaw2_NumRuns.f).bind fun t131 => (some t131)) else (some false)) else (if (t120 == t126 && (t121.toList == t127.toList && ((wrap64 (t122 + (Int.tmod a3 1000))) == t128))) = true then ((emendlaw2_NumRuns.f).bind fun t132 => (some t132)) else (some false))) = some r := by rw [if_neg (show ¬ (false = true) by decide)] at H; exact H
                      clear H
                      have H := H1
                      clear H1
                      by_cases c32 : t121.toList = ([] : List UInt8)
                      · rw [if_pos c32] at H
                        have c32b0 : (t121.toList == ([] : List UInt8)) = true := beq_iff_eq.mpr c32
                        have c32b1 : (t121.toList != ([] : List UInt8)) = false := bne_eq_false_iff_eq.mpr c32
                        clear c32
                        by_cases c33 : (t126 == t120 && (t127.toList == t121.toList && (t128 == t122))) = true
                        · rw [if_pos c33] at H
                          have c33b0 : (t126 == t120 && (t127.toList == t121.toList && (t128 == t122))) = true := c33
                          (try (have c33b1 : decide (t126 = t120 && (t127.toList == t121.toList && (t128 == t122))) = true := by simpa using c33))
                          (try (have c33b2 : (t126 == t120 && (t127.toList == t121.toList && (t128 == t122))) = true := by simpa using c33))
                          clear c33
                          replace H := Option.bind_eq_some_iff.mp H
                          obtain ⟨t131, A340, H⟩ := H
                          replace H : (some t131) = some r := H
                          have A34 := Aside0.mk A340
                          clear A340
                          obtain rfl := Option.some.inj H
                          have hnb35 := NB124_130.out
                          have hnc35 := NB130_124.out
                          have hcz36_0 : wc.cell? ⟨gb124, 0, none⟩ = some (.bool t120) := (blk_cell BK124.out 0).trans rfl
                          have hcz36_1 : wc.cell? ⟨gb124, 1, none⟩ = some (.string t121) := (blk_cell BK124.out 1).trans rfl
                          have hcz36_2 : wc.cell? ⟨gb124, 2, none⟩ = some (.int .i64 t122) := (blk_cell BK124.out 2).trans rfl
                          have hfz36_0 := blk_frozen BK124.out 0
                          have hfz36_1 := blk_frozen BK124.out 1
                          have hfz36_2 := blk_frozen BK124.out 2
                          have hcz37_0 : wc.cell? ⟨gb130, 0, none⟩ = some (.bool t126) := (blk_cell BK130.out 0).trans rfl
                          have hcz37_1 : wc.cell? ⟨gb130, 1, none⟩ = some (.string t127) := (blk_cell BK130.out 1).trans rfl
                          have hcz37_2 : wc.cell? ⟨gb130, 2, none⟩ = some (.int .i64 t128) := (blk_cell BK130.out 2).trans rfl
                          have hfz37_0 := blk_frozen BK130.out 0
                          have hfz37_1 := blk_frozen BK130.out 1
                          have hfz37_2 := blk_frozen BK130.out 2
                          go_wp2_with (first | (go_at_call 3; (with_reducible refine (emendlaw2_NumRuns.calls  t131 _ (HEnv.out.below (by repeat (first | (with_reducible first | exact HB.out | apply below_alloc | apply pw_below_drewN | apply below_drew1) | exact HB.out | refine below_set ?_ (Aside0.out (by assumption)))) HEnv.out.size) A34.out).mono ?_); rintro e w38 ⟨rfl, hb⟩; have n0_ := Aside0.mk (blk_below (g := gb124) (o := .cells #[.bool t120, .string t121, .int .i64 t122] 32 (0, 0)) (by (with_reducible repeat (first | refine blk_drewN ?_ _ | refine blk_drew ?_ | refine blk_alloc ?_ _)); exact BK124.out) hb); have n1_ := Aside0.mk (blk_below (g := gb130) (o := .cells #[.bool t126, .string t127, .int .i64 t128] 32 (0, 0)) (by (with_reducible repeat (first | refine blk_drewN ?_ _ | refine blk_drew ?_ | refine blk_alloc ?_ _)); exact BK130.out) hb); have n2_ := Aside0.mk (below_step (by repeat (first | (with_reducible first | exact HB.out | apply below_alloc | apply pw_below_drewN | apply below_drew1 | refine below_set ?_ GE124.out | refine below_set ?_ GE130.out) | exact HB.out)) hb); clear BK124; clear BK130; clear HB; have BK124 := n0_; have BK130 := n1_; have HB := n2_; clear n0_ n1_ n2_; (try clear hb); (try clear hb2); (try clear hk); (try clear hi)))
                          go_ret
                          exact ⟨by first | rfl | (simp [errW_none, errW_some] <;> rfl) | (simp [*, errW_none, errW_some] <;> rfl), by repeat (first | (with_reducible first | exact HB.out | apply below_alloc | apply pw_below_drewN | apply below_drew1 | refine below_set ?_ GE124.out | refine below_set ?_ GE130.out) | exact HB.out)⟩
                        · rw [if_neg c33] at H
                          have c33b0 : (t126 == t120 && (t127.toList == t121.toList && (t128 == t122))) = false := by simpa using c33
                          (try (have c33b1 : decide (t126 = t120 && (t127.toList == t121.toList && (t128 == t122))) = false := by simpa using c33))
                          (try (have c33b2 : (t126 == t120 && (t127.toList == t121.toList && (t128 == t122))) = false := by simpa using c33))
                          (try (have c33b3 : ¬ (t126 = t120 && (t127.toList == t121.toList && (t128 == t122))) := by simpa using c33))
                          clear c33
                          obtain rfl := Option.some.inj H
                          have hnb39 := NB124_130.out
                          have hnc39 := NB130_124.out
                          have hcz40_0 : wc.cell? ⟨gb124, 0, none⟩ = some (.bool t120) := (blk_cell BK124.out 0).trans rfl
                          have hcz40_1 : wc.cell? ⟨gb124, 1, none⟩ = some (.string t121) := (blk_cell BK124.out 1).trans rfl
                          have hcz40_2 : wc.cell? ⟨gb124, 2, none⟩ = some (.int .i64 t122) := (blk_cell BK124.out 2).trans rfl
                          have hfz40_0 := blk_frozen BK124.out 0
                          have hfz40_1 := blk_frozen BK124.out 1
                          have hfz40_2 := blk_frozen BK124.out 2
                          have hcz41_0 : wc.cell? ⟨gb130, 0, none⟩ = some (.bool t126) := (blk_cell BK130.out 0).trans rfl
                          have hcz41_1 : wc.cell? ⟨gb130, 1, none⟩ = some (.string t127) := (blk_cell BK130.out 1).trans rfl
                          have hcz41_2 : wc.cell? ⟨gb130, 2, none⟩ = some (.int .i64 t128) := (blk_cell BK130.out 2).trans rfl
                          have hfz41_0 := blk_frozen BK130.out 0
                          have hfz41_1 := blk_frozen BK130.out 1
                          have hfz41_2 := blk_frozen BK130.out 2
                          go_wp2
                          go_ret
                          exact ⟨by first | rfl | (simp [errW_none, errW_some] <;> rfl) | (simp [*, errW_none, errW_some] <;> rfl), by repeat (first | (with_reducible first | exact HB.out | apply below_alloc | apply pw_below_drewN | apply below_drew1 | refine below_set ?_ GE124.out | refine below_set ?_ GE130.out) | exact HB.out)⟩
                      · rw [if_neg c32] at H
                        have c32b0 : (t121.toList == ([] : List UInt8)) = false := beq_eq_false_iff_ne.mpr c32
                        have c32b1 : (t121.toList != ([] : List UInt8)) = true := bne_iff_ne.mpr c32
                        by_cases c42 : (t120 == t126 && (t121.toList == t127.toList && ((wrap64 (t122 + (Int.tmod a3 1000))) == t128))) = true
                        · rw [if_pos c42] at H
                          have c42b0 : (t120 == t126 && (t121.toList == t127.toList && ((wrap64 (t122 + (Int.tmod a3 1000))) == t128))) = true := c42
                          (try (have c42b1 : decide (t120 = t126 && (t121.toList == t127.toList && ((wrap64 (t122 + (Int.tmod a3 1000))) == t128))) = true := by simpa using c42))
                          (try (have c42b2 : (t120 == t126 && (t121.toList == t127.toList && ((wrap64 (t122 + (Int.tmod a3 1000))) == t128))) = true := by simpa using c42))
                          clear c42
                          replace H := Option.bind_eq_some_iff.mp H
                          obtain ⟨t132, A430, H⟩ := H
                          replace H : (some t132) = some r := H
                          have A43 := Aside0.mk A430
                          clear A430
                          obtain rfl := Option.some.inj H
                          have hnb44 := NB124_130.out
                          have hnc44 := NB130_124.out
                          have hcz45_0 : wc.cell? ⟨gb124, 0, none⟩ = some (.bool t120) := (blk_cell BK124.out 0).trans rfl
                          have hcz45_1 : wc.cell? ⟨gb124, 1, none⟩ = some (.string t121) := (blk_cell BK124.out 1).trans rfl
                          have hcz45_2 : wc.cell? ⟨gb124, 2, none⟩ = some (.int .i64 t122) := (blk_cell BK124.out 2).trans rfl
                          have hfz45_0 := blk_frozen BK124.out 0
                          have hfz45_1 := blk_frozen BK124.out 1
                          have hfz45_2 := blk_frozen BK124.out 2
                          have hcz46_0 : wc.cell? ⟨gb130, 0, none⟩ = some (.bool t126) := (blk_cell BK130.out 0).trans rfl
                          have hcz46_1 : wc.cell? ⟨gb130, 1, none⟩ = some (.string t127) := (blk_cell BK130.out 1).trans rfl
                          have hcz46_2 : wc.cell? ⟨gb130, 2, none⟩ = some (.int .i64 t128) := (blk_cell BK130.out 2).trans rfl
                          have hfz46_0 := blk_frozen BK130.out 0
                          have hfz46_1 := blk_frozen BK130.out 1
                          have hfz46_2 := blk_frozen BK130.out 2
                          go_wp2_with (first | (go_at_call 3; (with_reducible refine (emendlaw2_NumRuns.calls  t132 _ (HEnv.out.below (by repeat (first | (with_reducible first | exact HB.out | apply below_alloc | apply pw_below_drewN | apply below_drew1) | exact HB.out | refine below_set ?_ (Aside0.out (by assumption)))) HEnv.out.size) A43.out).mono ?_); rintro e w47 ⟨rfl, hb⟩; have n0_ := Aside0.mk (blk_below (g := gb124) (o := .cells #[.bool t120, .string t121, .int .i64 (wrap64 (t122 + (Int.tmod a3 1000)))] 32 (0, 0)) (by (with_reducible repeat (first | refine blk_drewN ?_ _ | refine blk_drew ?_ | refine blk_alloc ?_ _)); refine blk_put (cs := #[.bool t120, .string t121, .int .i64 t122]) ?_ 2 _ rfl; (with_reducible repeat (first | refine blk_drewN ?_ _ | refine blk_drew ?_ | refine blk_alloc ?_ _)); exact BK124.out) hb); have n1_ := Aside0.mk (blk_below (g := gb130) (o := .cells #[.bool t126, .string t127, .int .i64 t128] 32 (0, 0)) (by (with_reducible repeat (first | refine blk_drewN ?_ _ | refine blk_drew ?_ | refine blk_alloc ?_ _)); refine blk_far ?_ NB130_124.out _; (with_reducible repeat (first | refine blk_drewN ?_ _ | refine blk_drew ?_ | refine blk_alloc ?_ _)); exact BK130.out) hb); have n2_ := Aside0.mk (below_step (by repeat (first | (with_reducible first | exact HB.out | apply below_alloc | apply pw_below_drewN | apply below_drew1 | refine below_set ?_ GE124.out | refine below_set ?_ GE130.out) | exact HB.out)) hb); clear BK124; clear BK130; clear HB; have BK124 := n0_; have BK130 := n1_; have HB := n2_; clear n0_ n1_ n2_; (try clear hb); (try clear hb2); (try clear hk); (try clear hi)))
                          go_ret
                          exact ⟨by first | rfl | (simp [errW_none, errW_some] <;> rfl) | (simp [*, errW_none, errW_some] <;> rfl), by repeat (first | (with_reducible first | exact HB.out | apply below_alloc | apply pw_below_drewN | apply below_drew1 | refine below_set ?_ GE124.out | refine below_set ?_ GE130.out) | exact HB.out)⟩
                        · rw [if_neg c42] at H
                          have c42b0 : (t120 == t126 && (t121.toList == t127.toList && ((wrap64 (t122 + (Int.tmod a3 1000))) == t128))) = false := by simpa using c42
                          (try (have c42b1 : decide (t120 = t126 && (t121.toList == t127.toList && ((wrap64 (t122 + (Int.tmod a3 1000))) == t128))) = false := by simpa using c42))
                          (try (have c42b2 : (t120 == t126 && (t121.toList == t127.toList && ((wrap64 (t122 + (Int.tmod a3 1000))) == t128))) = false := by simpa using c42))
                          (try (have c42b3 : ¬ (t120 = t126 && (t121.toList == t127.toList && ((wrap64 (t122 + (Int.tmod a3 1000))) == t128))) := by simpa using c42))
                          clear c42
                          obtain rfl := Option.some.inj H
                          have hnb48 := NB124_130.out
                          have hnc48 := NB130_124.out
                          have hcz49_0 : wc.cell? ⟨gb124, 0, none⟩ = some (.bool t120) := (blk_cell BK124.out 0).trans rfl
                          have hcz49_1 : wc.cell? ⟨gb124, 1, none⟩ = some (.string t121) := (blk_cell BK124.out 1).trans rfl
                          have hcz49_2 : wc.cell? ⟨gb124, 2, none⟩ = some (.int .i64 t122) := (blk_cell BK124.out 2).trans rfl
                          have hfz49_0 := blk_frozen BK124.out 0
                          have hfz49_1 := blk_frozen BK124.out 1
                          have hfz49_2 := blk_frozen BK124.out 2
                          have hcz50_0 : wc.cell? ⟨gb130, 0, none⟩ = some (.bool t126) := (blk_cell BK130.out 0).trans rfl
                          have hcz50_1 : wc.cell? ⟨gb130, 1, none⟩ = some (.string t127) := (blk_cell BK130.out 1).trans rfl
                          have hcz50_2 : wc.cell? ⟨gb130, 2, none⟩ = some (.int .i64 t128) := (blk_cell BK130.out 2).trans rfl
                          have hfz50_0 := blk_frozen BK130.out 0
                          have hfz50_1 := blk_frozen BK130.out 1
                          have hfz50_2 := blk_frozen BK130.out 2
                          go_wp2
                          go_ret
                          exact ⟨by first | rfl | (simp [errW_none, errW_some] <;> rfl) | (simp [*, errW_none, errW_some] <;> rfl), by repeat (first | (with_reducible first | exact HB.out | apply below_alloc | apply pw_below_drewN | apply below_drew1 | refine below_set ?_ GE124.out | refine below_set ?_ GE130.out) | exact HB.out)⟩
              · rw [if_neg c16] at H
                exact absurd H (by simp)
            · rw [if_neg c13] at H
              exact absurd H (by simp)
          · rw [if_neg c11] at H
            exact absurd H (by simp)
        · rw [if_neg c10] at H
          exact absurd H (by simp)
      · rw [if_neg c8] at H
        exact absurd H (by simp)

end Go.Proofs.YtjaongknagmfiaaDoor.PS
