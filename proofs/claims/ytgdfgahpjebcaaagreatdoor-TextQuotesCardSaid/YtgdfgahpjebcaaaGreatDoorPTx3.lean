-- PRINTED by print.py (a twelfth state) out of the translation. Not trusted: Lean checks it.
import Derived.Test.YtgdfgahpjebcaaaGreatDoorPTx0
import Derived.Test.YtgdfgahpjebcaaaGreatDoorPTx1
import Derived.Test.YtgdfgahpjebcaaaGreatDoorPTx2
namespace Go.Proofs.YtgdfgahpjebcaaaGreatDoor.PT
open Go.RowKit Go.Proofs.YtgdfgahpjebcaaaGreatDoorW.PrintWords Go.Proofs.YtgdfgahpjebcaaaGreatDoorW.PrintLast Go.Proofs.YtgdfgahpjebcaaaGreatDoorW.PrintMore
attribute [local go_sem] max2_int min2_int max_two min_two max_three min_three max_four min_four   -- for this text's walks alone
set_option linter.unusedVariables false
set_option linter.unusedSimpArgs false

/-! ### text_Escaped: function 38 -/
def text_Escaped.j0 : Nat → ByteArray → Int → Bool → Option (Int × Int)
  | 0, _, _, _ => none
  | k + 1, x0, x7, x8 => if x8 = true then (if 0 < (x0.size : Int) then (some (wrap64 (bt x0 0), 1)) else (none)) else (if x7 = 98 then (some (8, 1)) else (if x7 = 116 then (some (9, 1)) else (if x7 = 110 then (some (10, 1)) else (if x7 = 102 then (some (12, 1)) else (if x7 = 114 then (some (13, 1)) else (if x7 = 117 then ((text_pair.f k x0).bind fun bt118 => (some (bt118.1, bt118.2))) else (some (0, 0))))))))
def text_Escaped.f (k : Nat) (a0 : ByteArray) : Option (Int × Int) := if a0.toList = ([] : List UInt8) then (some (0, 0)) else (if 0 < (a0.size : Int) then (if (bt a0 0) = 34 then (text_Escaped.j0 k a0 (bt a0 0) ((bt a0 0) == 34)) else (if (bt a0 0) = 92 then (text_Escaped.j0 k a0 (bt a0 0) ((bt a0 0) == 92)) else (text_Escaped.j0 k a0 (bt a0 0) ((bt a0 0) == 47)))) else (none))
theorem text_Escaped.mono_l : ∀ k, (∀ y0 y1 y2, LeO (text_Escaped.j0 k y0 y1 y2) (text_Escaped.j0 (k + 1) y0 y1 y2))
  | 0 => fun _ _ _ r h => by simp [text_Escaped.j0] at h
  | k + 1 => by
    have ih0 := text_Escaped.mono_l k
    · intro y0 y1 y2
      unfold text_Escaped.j0
      repeat' first
      | (with_reducible exact ih0 _ _ _)
      | (with_reducible exact text_pair.mono _ _)
      | (with_reducible exact LeO.refl _)
      | (with_reducible exact LeO.none _)
      | (with_reducible refine LeO.ite ?_ ?_)
      | (with_reducible refine LeO.bind ?_ (fun _ => ?_))
      | exact ih0 _ _ _
      | exact text_pair.mono _ _
      | exact LeO.none _
      | refine LeO.ite ?_ ?_
      | refine LeO.bind ?_ (fun _ => ?_)
theorem text_Escaped.mono : ∀ a0 k, LeO (text_Escaped.f k a0) (text_Escaped.f (k + 1) a0) := by
  intro a0 k
  have ih0 := text_Escaped.mono_l k
  unfold text_Escaped.f
  repeat' first
      | (with_reducible exact ih0 _ _ _)
      | (with_reducible exact text_pair.mono _ _)
      | (with_reducible exact LeO.refl _)
      | (with_reducible exact LeO.none _)
      | (with_reducible refine LeO.ite ?_ ?_)
      | (with_reducible refine LeO.bind ?_ (fun _ => ?_))
      | exact ih0 _ _ _
      | exact text_pair.mono _ _
      | exact LeO.none _
      | refine LeO.ite ?_ ?_
      | refine LeO.bind ?_ (fun _ => ?_)
set_option maxHeartbeats 8000000 in
set_option maxRecDepth 100000 in
theorem text_Escaped.calls (k : Nat) (a0 : ByteArray) (r1 : Int) (r2 : Int) (w : World) (h : text_Escaped.f k a0 = some (r1, r2)) :
    Calls Tryz.prog 38 #[.string a0] w fun e w' => e = .returned (.tuple #[.int .i64 r1, .int .i64 r2]) ∧ Drawn0 w w' := by
  have H : (if a0.toList = ([] : List UInt8) then (some (0, 0)) else (if 0 < (a0.size : Int) then (if (bt a0 0) = 34 then (text_Escaped.j0 k a0 (bt a0 0) ((bt a0 0) == 34)) else (if (bt a0 0) = 92 then (text_Escaped.j0 k a0 (bt a0 0) ((bt a0 0) == 92)) else (text_Escaped.j0 k a0 (bt a0 0) ((bt a0 0) == 47)))) else (none))) = some (r1, r2) := h
  clear h
  by_cases c2 : a0.toList = ([] : List UInt8)
  · rw [if_pos c2] at H
    have c2b0 : (a0.toList == ([] : List UInt8)) = true := beq_iff_eq.mpr c2
    have c2b1 : (a0.toList != ([] : List UInt8)) = false := bne_eq_false_iff_eq.mpr c2
    clear c2
    simp only [Option.some.injEq, Prod.mk.injEq] at H
    obtain ⟨rfl, rfl⟩ := H
    go_enter Tryz.func38, Tryz.ntmps38
    go_wp2
    go_ret2
    exact ⟨by first | rfl | (simp; done) | (simp [*]; done), by repeat (first | exact Drawn0.refl _ | apply Drawn0.step)⟩
  · rw [if_neg c2] at H
    have c2b0 : (a0.toList == ([] : List UInt8)) = false := beq_eq_false_iff_ne.mpr c2
    have c2b1 : (a0.toList != ([] : List UInt8)) = true := bne_iff_ne.mpr c2
    by_cases c3 : 0 < (a0.size : Int)
    · rw [if_pos c3] at H
      have c3b0 : decide (0 < (a0.size : Int)) = true := decide_eq_true c3
      have c3b1 : decide (0 < a0.size) = true := decide_eq_true (by omega)
      clear c3
      have HC5 := Aside0.mk H
      clear H
      have p4 : 0 ≤ (0 : Int) := (by omega)
      have q4 : 0 < a0.size := (by have : (0 : Int) < (a0.size : Int) := of_decide_eq_true (by first | (with_reducible assumption) | assumption); omega)
      have hx4 : ∀ h : 0 < a0.size, ((a0[0]'h).toNat : Int) = bt a0 0 := bt_at a0 0
      clear p4
      have qi4 : (0 < (a0.size : Int)) = True := eq_true (of_decide_eq_true (by first | (with_reducible assumption) | assumption))
      replace q4 := eq_true q4
      go_enter Tryz.func38, Tryz.ntmps38
      go_upto_if 8 with (fail)
      go_cut [8] (fun v8 wc => ∃ (kq : Nat) (x8_4 : Bool), v8 = .bool x8_4 ∧ Aside0 (text_Escaped.j0 kq a0 (bt a0 0) x8_4 = some (r1, r2)) ∧ Aside0 (kq ≤ k) ∧ Drawn0 w wc)
      case first =>
        have H := HC5.out
        clear HC5
        by_cases c6 : (bt a0 0) = 34
        · rw [if_pos c6] at H
          have c6b0 : ((bt a0 0) == 34) = true := beq_iff_eq.mpr c6
          have c6b1 : ((bt a0 0) != 34) = false := bne_eq_false_iff_eq.mpr c6
          clear c6
          (first | rw [c6b0] | (simp only [i64_w, i32_w]; rw [c6b0]) | skip)
          have H' := Aside0.mk H
          clear H
          go_wp2
          go_meet
          case rel => exact ⟨_, (((bt a0 0) == 34)), (by first | rfl | (simp; done) | (simp [*]; done)), H', ⟨by first | omega | exact Nat.le_refl _⟩, by repeat (first | exact Drawn0.refl _ | apply Drawn0.step)⟩
        · rw [if_neg c6] at H
          have c6b0 : ((bt a0 0) == 34) = false := beq_eq_false_iff_ne.mpr c6
          have c6b1 : ((bt a0 0) != 34) = true := bne_iff_ne.mpr c6
          (first | rw [c6b0] | (simp only [i64_w, i32_w]; rw [c6b0]) | skip)
          by_cases c7 : (bt a0 0) = 92
          · rw [if_pos c7] at H
            have c7b0 : ((bt a0 0) == 92) = true := beq_iff_eq.mpr c7
            have c7b1 : ((bt a0 0) != 92) = false := bne_eq_false_iff_eq.mpr c7
            clear c7
            have H' := Aside0.mk H
            clear H
            go_wp2
            go_meet
            case rel => exact ⟨_, (((bt a0 0) == 92)), (by first | rfl | (simp; done) | (simp [*]; done)), H', ⟨by first | omega | exact Nat.le_refl _⟩, by repeat (first | exact Drawn0.refl _ | apply Drawn0.step)⟩
          · rw [if_neg c7] at H
            have c7b0 : ((bt a0 0) == 92) = false := beq_eq_false_iff_ne.mpr c7
            have c7b1 : ((bt a0 0) != 92) = true := bne_iff_ne.mpr c7
            have H' := Aside0.mk H
            clear H
            go_wp2
            go_meet
            case rel => exact ⟨_, (((bt a0 0) == 47)), (by first | rfl | (simp; done) | (simp [*]; done)), H', ⟨by first | omega | exact Nat.le_refl _⟩, by repeat (first | exact Drawn0.refl _ | apply Drawn0.step)⟩
      case rest =>
        clear HC5
        try clear c2
        try clear c2b0
        try clear c2b1
        try clear p2
        try clear c3
        try clear c3b0
        try clear c3b1
        try clear p4
        try clear q4
        try clear hx4
        try clear qi4
        try clear c6
        try clear c6b0
        try clear c6b1
        try clear c7
        try clear c7b0
        try clear c7b1
        try clear p4
        try clear q4
        obtain ⟨kq, x8_4, rfl, HA, HJ4, ⟨mc4, rfl⟩⟩ := hcut
        cases kq with
        | zero => exact absurd HA.out (by simp [text_Escaped.j0])
        | succ kj4 =>
          have H := HA.out
          clear HA
          simp only [text_Escaped.j0] at H
          by_cases c8 : x8_4 = true
          · subst c8
            have H1 : (if 0 < (a0.size : Int) then (some (wrap64 (bt a0 0), 1)) else (none)) = some (r1, r2) := by rw [if_pos rfl] at H; exact H
            clear H
            have H := H1
            clear H1
            by_cases c9 : 0 < (a0.size : Int)
            · rw [if_pos c9] at H
              have c9b0 : decide (0 < (a0.size : Int)) = true := decide_eq_true c9
              have c9b1 : decide (0 < a0.size) = true := decide_eq_true (by omega)
              clear c9
              simp only [Option.some.injEq, Prod.mk.injEq] at H
              obtain ⟨rfl, rfl⟩ := H
              have p10 : 0 ≤ (0 : Int) := (by omega)
              have q10 : 0 < a0.size := (by have : (0 : Int) < (a0.size : Int) := of_decide_eq_true (by first | (with_reducible assumption) | assumption); omega)
              have hx10 : ∀ h : 0 < a0.size, ((a0[0]'h).toNat : Int) = bt a0 0 := bt_at a0 0
              clear p10
              have qi10 : (0 < (a0.size : Int)) = True := eq_true (of_decide_eq_true (by first | (with_reducible assumption) | assumption))
              replace q10 := eq_true q10
              go_wp2
              go_ret2
              exact ⟨by first | rfl | (simp; done) | (simp [*]; done), by repeat (first | exact Drawn0.refl _ | apply Drawn0.step)⟩
            · rw [if_neg c9] at H
              exact absurd H (by simp)
          · replace c8 := Bool.eq_false_iff.mpr c8
            subst c8
            have H1 : (if (bt a0 0) = 98 then (some (8, 1)) else (if (bt a0 0) = 116 then (some (9, 1)) else (if (bt a0 0) = 110 then (some (10, 1)) else (if (bt a0 0) = 102 then (some (12, 1)) else (if (bt a0 0) = 114 then (some (13, 1)) else (if (bt a0 0) = 117 then ((text_pair.f kj4 a0).bind fun bt118 => (some (bt118.1, bt118.2))) else (some (0, 0)))))))) = some (r1, r2) := by rw [if_neg (show ¬ (false = true) by decide)] at H; exact H
            clear H
            have H := H1
            clear H1
            by_cases c11 : (bt a0 0) = 98
            · rw [if_pos c11] at H
              have c11b0 : ((bt a0 0) == 98) = true := beq_iff_eq.mpr c11
              have c11b1 : ((bt a0 0) != 98) = false := bne_eq_false_iff_eq.mpr c11
              clear c11
              simp only [Option.some.injEq, Prod.mk.injEq] at H
              obtain ⟨rfl, rfl⟩ := H
              go_wp2
              go_ret2
              exact ⟨by first | rfl | (simp; done) | (simp [*]; done), by repeat (first | exact Drawn0.refl _ | apply Drawn0.step)⟩
            · rw [if_neg c11] at H
              have c11b0 : ((bt a0 0) == 98) = false := beq_eq_false_iff_ne.mpr c11
              have c11b1 : ((bt a0 0) != 98) = true := bne_iff_ne.mpr c11
              by_cases c12 : (bt a0 0) = 116
              · rw [if_pos c12] at H
                have c12b0 : ((bt a0 0) == 116) = true := beq_iff_eq.mpr c12
                have c12b1 : ((bt a0 0) != 116) = false := bne_eq_false_iff_eq.mpr c12
                clear c12
                simp only [Option.some.injEq, Prod.mk.injEq] at H
                obtain ⟨rfl, rfl⟩ := H
                go_wp2
                go_ret2
                exact ⟨by first | rfl | (simp; done) | (simp [*]; done), by repeat (first | exact Drawn0.refl _ | apply Drawn0.step)⟩
              · rw [if_neg c12] at H
                have c12b0 : ((bt a0 0) == 116) = false := beq_eq_false_iff_ne.mpr c12
                have c12b1 : ((bt a0 0) != 116) = true := bne_iff_ne.mpr c12
                by_cases c13 : (bt a0 0) = 110
                · rw [if_pos c13] at H
                  have c13b0 : ((bt a0 0) == 110) = true := beq_iff_eq.mpr c13
                  have c13b1 : ((bt a0 0) != 110) = false := bne_eq_false_iff_eq.mpr c13
                  clear c13
                  simp only [Option.some.injEq, Prod.mk.injEq] at H
                  obtain ⟨rfl, rfl⟩ := H
                  go_wp2
                  go_ret2
                  exact ⟨by first | rfl | (simp; done) | (simp [*]; done), by repeat (first | exact Drawn0.refl _ | apply Drawn0.step)⟩
                · rw [if_neg c13] at H
                  have c13b0 : ((bt a0 0) == 110) = false := beq_eq_false_iff_ne.mpr c13
                  have c13b1 : ((bt a0 0) != 110) = true := bne_iff_ne.mpr c13
                  by_cases c14 : (bt a0 0) = 102
                  · rw [if_pos c14] at H
                    have c14b0 : ((bt a0 0) == 102) = true := beq_iff_eq.mpr c14
                    have c14b1 : ((bt a0 0) != 102) = false := bne_eq_false_iff_eq.mpr c14
                    clear c14
                    simp only [Option.some.injEq, Prod.mk.injEq] at H
                    obtain ⟨rfl, rfl⟩ := H
                    go_wp2
                    go_ret2
                    exact ⟨by first | rfl | (simp; done) | (simp [*]; done), by repeat (first | exact Drawn0.refl _ | apply Drawn0.step)⟩
                  · rw [if_neg c14] at H
                    have c14b0 : ((bt a0 0) == 102) = false := beq_eq_false_iff_ne.mpr c14
                    have c14b1 : ((bt a0 0) != 102) = true := bne_iff_ne.mpr c14
                    by_cases c15 : (bt a0 0) = 114
                    · rw [if_pos c15] at H
                      have c15b0 : ((bt a0 0) == 114) = true := beq_iff_eq.mpr c15
                      have c15b1 : ((bt a0 0) != 114) = false := bne_eq_false_iff_eq.mpr c15
                      clear c15
                      simp only [Option.some.injEq, Prod.mk.injEq] at H
                      obtain ⟨rfl, rfl⟩ := H
                      go_wp2
                      go_ret2
                      exact ⟨by first | rfl | (simp; done) | (simp [*]; done), by repeat (first | exact Drawn0.refl _ | apply Drawn0.step)⟩
                    · rw [if_neg c15] at H
                      have c15b0 : ((bt a0 0) == 114) = false := beq_eq_false_iff_ne.mpr c15
                      have c15b1 : ((bt a0 0) != 114) = true := bne_iff_ne.mpr c15
                      by_cases c16 : (bt a0 0) = 117
                      · rw [if_pos c16] at H
                        have c16b0 : ((bt a0 0) == 117) = true := beq_iff_eq.mpr c16
                        have c16b1 : ((bt a0 0) != 117) = false := bne_eq_false_iff_eq.mpr c16
                        clear c16
                        replace H := Option.bind_eq_some_iff.mp H
                        obtain ⟨⟨t118, t119⟩, A170, H⟩ := H
                        replace H : (some (t118, t119)) = some (r1, r2) := H
                        have A17 := Aside0.mk A170
                        clear A170
                        simp only [Option.some.injEq, Prod.mk.injEq] at H
                        obtain ⟨rfl, rfl⟩ := H
                        go_wp2_with (first | ((with_reducible refine gate_callee (f := 54) rfl ?_); refine goesL_ (some 28) rfl rfl Tryz.func54 (by kernel_rfl) rfl #[.string a0] rfl (by (try simp only [List.map_toArray, List.map_cons, List.map_nil]); first | done | rfl | (simp only [List.length_drop, List.length_take]; rfl)) ?_; (with_reducible refine (text_pair.calls kj4 a0 t118 t119 _ A17.out).mono ?_); rintro e w' ⟨rfl, ⟨nd, rfl⟩⟩; refine ⟨_, rfl, ?_⟩))
                        go_ret2
                        exact ⟨by first | rfl | (simp; done) | (simp [*]; done), by repeat (first | exact Drawn0.refl _ | apply Drawn0.step)⟩
                      · rw [if_neg c16] at H
                        have c16b0 : ((bt a0 0) == 117) = false := beq_eq_false_iff_ne.mpr c16
                        have c16b1 : ((bt a0 0) != 117) = true := bne_iff_ne.mpr c16
                        simp only [Option.some.injEq, Prod.mk.injEq] at H
                        obtain ⟨rfl, rfl⟩ := H
                        go_wp2
                        go_ret2
                        exact ⟨by first | rfl | (simp; done) | (simp [*]; done), by repeat (first | exact Drawn0.refl _ | apply Drawn0.step)⟩
    · rw [if_neg c3] at H
      exact absurd H (by simp)

/-! ### text_XML: function 49 -/
def text_XML.f (a0 : Int) : Option (Bool) := (text_character.f a0).bind fun t120 => (if t120 = true then (if a0 ≥ 32 then (if a0 = 65534 then (some false) else (some (a0 != 65535))) else (if a0 = 9 then (if a0 = 65534 then (some false) else (some (a0 != 65535))) else (if a0 = 10 then (if a0 = 65534 then (some false) else (some (a0 != 65535))) else (if a0 = 13 then (if a0 = 65534 then (some false) else (some (a0 != 65535))) else (some false))))) else (some false))
set_option maxHeartbeats 8000000 in
set_option maxRecDepth 100000 in
theorem text_XML.calls (a0 : Int) (r : Bool) (w : World) (h : text_XML.f a0 = some r) :
    Calls Tryz.prog 49 #[.int .i64 a0] w fun e w' => e = .returned (.bool r) ∧ Drawn0 w w' := by
  have H : ((text_character.f a0).bind fun t120 => (if t120 = true then (if a0 ≥ 32 then (if a0 = 65534 then (some false) else (some (a0 != 65535))) else (if a0 = 9 then (if a0 = 65534 then (some false) else (some (a0 != 65535))) else (if a0 = 10 then (if a0 = 65534 then (some false) else (some (a0 != 65535))) else (if a0 = 13 then (if a0 = 65534 then (some false) else (some (a0 != 65535))) else (some false))))) else (some false))) = some r := h
  clear h
  replace H := Option.bind_eq_some_iff.mp H
  obtain ⟨t120, A20, H⟩ := H
  replace H : (if t120 = true then (if a0 ≥ 32 then (if a0 = 65534 then (some false) else (some (a0 != 65535))) else (if a0 = 9 then (if a0 = 65534 then (some false) else (some (a0 != 65535))) else (if a0 = 10 then (if a0 = 65534 then (some false) else (some (a0 != 65535))) else (if a0 = 13 then (if a0 = 65534 then (some false) else (some (a0 != 65535))) else (some false))))) else (some false)) = some r := H
  have A2 := Aside0.mk A20
  clear A20
  by_cases c3 : t120 = true
  · subst c3
    have H1 : (if a0 ≥ 32 then (if a0 = 65534 then (some false) else (some (a0 != 65535))) else (if a0 = 9 then (if a0 = 65534 then (some false) else (some (a0 != 65535))) else (if a0 = 10 then (if a0 = 65534 then (some false) else (some (a0 != 65535))) else (if a0 = 13 then (if a0 = 65534 then (some false) else (some (a0 != 65535))) else (some false))))) = some r := by rw [if_pos rfl] at H; exact H
    clear H
    have H := H1
    clear H1
    by_cases c4 : a0 ≥ 32
    · rw [if_pos c4] at H
      have c4b0 : decide (32 ≤ a0) = true := decide_eq_true c4
      clear c4
      by_cases c5 : a0 = 65534
      · rw [if_pos c5] at H
        have c5b0 : (a0 == 65534) = true := beq_iff_eq.mpr c5
        have c5b1 : (a0 != 65534) = false := bne_eq_false_iff_eq.mpr c5
        clear c5
        obtain rfl := Option.some.inj H
        go_enter Tryz.func49, Tryz.ntmps49
        go_wp2_with (first | ((with_reducible refine gate_callee (f := 46) rfl ?_); refine goesL_ (some 4) rfl rfl Tryz.func46 (by kernel_rfl) rfl #[.int .i64 a0] rfl (by (try simp only [List.map_toArray, List.map_cons, List.map_nil]); first | done | rfl | (simp only [List.length_drop, List.length_take]; rfl)) ?_; (with_reducible refine (text_character.calls a0 true _ A2.out).mono ?_); rintro e w' ⟨rfl, ⟨nd, rfl⟩⟩; refine ⟨_, rfl, ?_⟩))
        go_ret
        exact ⟨by first | rfl | (simp; done) | (simp [*]; done), by repeat (first | exact Drawn0.refl _ | apply Drawn0.step)⟩
      · rw [if_neg c5] at H
        have c5b0 : (a0 == 65534) = false := beq_eq_false_iff_ne.mpr c5
        have c5b1 : (a0 != 65534) = true := bne_iff_ne.mpr c5
        obtain rfl := Option.some.inj H
        go_enter Tryz.func49, Tryz.ntmps49
        go_wp2_with (first | ((with_reducible refine gate_callee (f := 46) rfl ?_); refine goesL_ (some 4) rfl rfl Tryz.func46 (by kernel_rfl) rfl #[.int .i64 a0] rfl (by (try simp only [List.map_toArray, List.map_cons, List.map_nil]); first | done | rfl | (simp only [List.length_drop, List.length_take]; rfl)) ?_; (with_reducible refine (text_character.calls a0 true _ A2.out).mono ?_); rintro e w' ⟨rfl, ⟨nd, rfl⟩⟩; refine ⟨_, rfl, ?_⟩))
        go_ret
        exact ⟨by first | rfl | (simp; done) | (simp [*]; done), by repeat (first | exact Drawn0.refl _ | apply Drawn0.step)⟩
    · rw [if_neg c4] at H
      have c4b0 : decide (32 ≤ a0) = false := decide_eq_false c4
      clear c4
      by_cases c6 : a0 = 9
      · rw [if_pos c6] at H
        have c6b0 : (a0 == 9) = true := beq_iff_eq.mpr c6
        have c6b1 : (a0 != 9) = false := bne_eq_false_iff_eq.mpr c6
        clear c6
        by_cases c7 : a0 = 65534
        · rw [if_pos c7] at H
          have c7b0 : (a0 == 65534) = true := beq_iff_eq.mpr c7
          have c7b1 : (a0 != 65534) = false := bne_eq_false_iff_eq.mpr c7
          clear c7
          obtain rfl := Option.some.inj H
          go_enter Tryz.func49, Tryz.ntmps49
          go_wp2_with (first | ((with_reducible refine gate_callee (f := 46) rfl ?_); refine goesL_ (some 4) rfl rfl Tryz.func46 (by kernel_rfl) rfl #[.int .i64 a0] rfl (by (try simp only [List.map_toArray, List.map_cons, List.map_nil]); first | done | rfl | (simp only [List.length_drop, List.length_take]; rfl)) ?_; (with_reducible refine (text_character.calls a0 true _ A2.out).mono ?_); rintro e w' ⟨rfl, ⟨nd, rfl⟩⟩; refine ⟨_, rfl, ?_⟩))
          go_ret
          exact ⟨by first | rfl | (simp; done) | (simp [*]; done), by repeat (first | exact Drawn0.refl _ | apply Drawn0.step)⟩
        · rw [if_neg c7] at H
          have c7b0 : (a0 == 65534) = false := beq_eq_false_iff_ne.mpr c7
          have c7b1 : (a0 != 65534) = true := bne_iff_ne.mpr c7
          obtain rfl := Option.some.inj H
          go_enter Tryz.func49, Tryz.ntmps49
          go_wp2_with (first | ((with_reducible refine gate_callee (f := 46) rfl ?_); refine goesL_ (some 4) rfl rfl Tryz.func46 (by kernel_rfl) rfl #[.int .i64 a0] rfl (by (try simp only [List.map_toArray, List.map_cons, List.map_nil]); first | done | rfl | (simp only [List.length_drop, List.length_take]; rfl)) ?_; (with_reducible refine (text_character.calls a0 true _ A2.out).mono ?_); rintro e w' ⟨rfl, ⟨nd, rfl⟩⟩; refine ⟨_, rfl, ?_⟩))
          go_ret
          exact ⟨by first | rfl | (simp; done) | (simp [*]; done), by repeat (first | exact Drawn0.refl _ | apply Drawn0.step)⟩
      · rw [if_neg c6] at H
        have c6b0 : (a0 == 9) = false := beq_eq_false_iff_ne.mpr c6
        have c6b1 : (a0 != 9) = true := bne_iff_ne.mpr c6
        by_cases c8 : a0 = 10
        · rw [if_pos c8] at H
          have c8b0 : (a0 == 10) = true := beq_iff_eq.mpr c8
          have c8b1 : (a0 != 10) = false := bne_eq_false_iff_eq.mpr c8
          clear c8
          by_cases c9 : a0 = 65534
          · rw [if_pos c9] at H
            have c9b0 : (a0 == 65534) = true := beq_iff_eq.mpr c9
            have c9b1 : (a0 != 65534) = false := bne_eq_false_iff_eq.mpr c9
            clear c9
            obtain rfl := Option.some.inj H
            go_enter Tryz.func49, Tryz.ntmps49
            go_wp2_with (first | ((with_reducible refine gate_callee (f := 46) rfl ?_); refine goesL_ (some 4) rfl rfl Tryz.func46 (by kernel_rfl) rfl #[.int .i64 a0] rfl (by (try simp only [List.map_toArray, List.map_cons, List.map_nil]); first | done | rfl | (simp only [List.length_drop, List.length_take]; rfl)) ?_; (with_reducible refine (text_character.calls a0 true _ A2.out).mono ?_); rintro e w' ⟨rfl, ⟨nd, rfl⟩⟩; refine ⟨_, rfl, ?_⟩))
            go_ret
            exact ⟨by first | rfl | (simp; done) | (simp [*]; done), by repeat (first | exact Drawn0.refl _ | apply Drawn0.step)⟩
          · rw [if_neg c9] at H
            have c9b0 : (a0 == 65534) = false := beq_eq_false_iff_ne.mpr c9
            have c9b1 : (a0 != 65534) = true := bne_iff_ne.mpr c9
            obtain rfl := Option.some.inj H
            go_enter Tryz.func49, Tryz.ntmps49
            go_wp2_with (first | ((with_reducible refine gate_callee (f := 46) rfl ?_); refine goesL_ (some 4) rfl rfl Tryz.func46 (by kernel_rfl) rfl #[.int .i64 a0] rfl (by (try simp only [List.map_toArray, List.map_cons, List.map_nil]); first | done | rfl | (simp only [List.length_drop, List.length_take]; rfl)) ?_; (with_reducible refine (text_character.calls a0 true _ A2.out).mono ?_); rintro e w' ⟨rfl, ⟨nd, rfl⟩⟩; refine ⟨_, rfl, ?_⟩))
            go_ret
            exact ⟨by first | rfl | (simp; done) | (simp [*]; done), by repeat (first | exact Drawn0.refl _ | apply Drawn0.step)⟩
        · rw [if_neg c8] at H
          have c8b0 : (a0 == 10) = false := beq_eq_false_iff_ne.mpr c8
          have c8b1 : (a0 != 10) = true := bne_iff_ne.mpr c8
          by_cases c10 : a0 = 13
          · rw [if_pos c10] at H
            have c10b0 : (a0 == 13) = true := beq_iff_eq.mpr c10
            have c10b1 : (a0 != 13) = false := bne_eq_false_iff_eq.mpr c10
            clear c10
            by_cases c11 : a0 = 65534
            · rw [if_pos c11] at H
              have c11b0 : (a0 == 65534) = true := beq_iff_eq.mpr c11
              have c11b1 : (a0 != 65534) = false := bne_eq_false_iff_eq.mpr c11
              clear c11
              obtain rfl := Option.some.inj H
              go_enter Tryz.func49, Tryz.ntmps49
              go_wp2_with (first | ((with_reducible refine gate_callee (f := 46) rfl ?_); refine goesL_ (some 4) rfl rfl Tryz.func46 (by kernel_rfl) rfl #[.int .i64 a0] rfl (by (try simp only [List.map_toArray, List.map_cons, List.map_nil]); first | done | rfl | (simp only [List.length_drop, List.length_take]; rfl)) ?_; (with_reducible refine (text_character.calls a0 true _ A2.out).mono ?_); rintro e w' ⟨rfl, ⟨nd, rfl⟩⟩; refine ⟨_, rfl, ?_⟩))
              go_ret
              exact ⟨by first | rfl | (simp; done) | (simp [*]; done), by repeat (first | exact Drawn0.refl _ | apply Drawn0.step)⟩
            · rw [if_neg c11] at H
              have c11b0 : (a0 == 65534) = false := beq_eq_false_iff_ne.mpr c11
              have c11b1 : (a0 != 65534) = true := bne_iff_ne.mpr c11
              obtain rfl := Option.some.inj H
              go_enter Tryz.func49, Tryz.ntmps49
              go_wp2_with (first | ((with_reducible refine gate_callee (f := 46) rfl ?_); refine goesL_ (some 4) rfl rfl Tryz.func46 (by kernel_rfl) rfl #[.int .i64 a0] rfl (by (try simp only [List.map_toArray, List.map_cons, List.map_nil]); first | done | rfl | (simp only [List.length_drop, List.length_take]; rfl)) ?_; (with_reducible refine (text_character.calls a0 true _ A2.out).mono ?_); rintro e w' ⟨rfl, ⟨nd, rfl⟩⟩; refine ⟨_, rfl, ?_⟩))
              go_ret
              exact ⟨by first | rfl | (simp; done) | (simp [*]; done), by repeat (first | exact Drawn0.refl _ | apply Drawn0.step)⟩
          · rw [if_neg c10] at H
            have c10b0 : (a0 == 13) = false := beq_eq_false_iff_ne.mpr c10
            have c10b1 : (a0 != 13) = true := bne_iff_ne.mpr c10
            obtain rfl := Option.some.inj H
            go_enter Tryz.func49, Tryz.ntmps49
            go_wp2_with (first | ((with_reducible refine gate_callee (f := 46) rfl ?_); refine goesL_ (some 4) rfl rfl Tryz.func46 (by kernel_rfl) rfl #[.int .i64 a0] rfl (by (try simp only [List.map_toArray, List.map_cons, List.map_nil]); first | done | rfl | (simp only [List.length_drop, List.length_take]; rfl)) ?_; (with_reducible refine (text_character.calls a0 true _ A2.out).mono ?_); rintro e w' ⟨rfl, ⟨nd, rfl⟩⟩; refine ⟨_, rfl, ?_⟩))
            go_ret
            exact ⟨by first | rfl | (simp; done) | (simp [*]; done), by repeat (first | exact Drawn0.refl _ | apply Drawn0.step)⟩
  · replace c3 := Bool.eq_false_iff.mpr c3
    subst c3
    have H1 : (some false) = some r := by rw [if_neg (show ¬ (false = true) by decide)] at H; exact H
    clear H
    have H := H1
    clear H1
    obtain rfl := Option.some.inj H
    go_enter Tryz.func49, Tryz.ntmps49
    go_wp2_with (first | ((with_reducible refine gate_callee (f := 46) rfl ?_); refine goesL_ (some 4) rfl rfl Tryz.func46 (by kernel_rfl) rfl #[.int .i64 a0] rfl (by (try simp only [List.map_toArray, List.map_cons, List.map_nil]); first | done | rfl | (simp only [List.length_drop, List.length_take]; rfl)) ?_; (with_reducible refine (text_character.calls a0 false _ A2.out).mono ?_); rintro e w' ⟨rfl, ⟨nd, rfl⟩⟩; refine ⟨_, rfl, ?_⟩))
    go_ret
    exact ⟨by first | rfl | (simp; done) | (simp [*]; done), by repeat (first | exact Drawn0.refl _ | apply Drawn0.step)⟩

/-! ### text_BadXML: function 47 -/
def text_BadXML.l0 : Nat → ByteArray → Int → Option (Int)
  | 0, _, _ => none
  | k + 1, x0, x3 => if x3 < (x0.size : Int) then (if 0 ≤ x3 then (if x3 ≤ (x0.size : Int) then ((text_First.f k (x0.extract (x3 : Int).toNat x0.size)).bind fun bt121 => ((text_XML.f bt121.1).bind fun t123 => (if t123 = true then (text_BadXML.l0 k x0 (wrap64 (x3 + bt121.2))) else (some x3)))) else (none)) else (none)) else (some (-1))
def text_BadXML.f (k : Nat) (a0 : ByteArray) : Option (Int) := text_BadXML.l0 k a0 0
theorem text_BadXML.mono_l : ∀ k, (∀ y0 y1, LeO (text_BadXML.l0 k y0 y1) (text_BadXML.l0 (k + 1) y0 y1))
  | 0 => fun _ _ r h => by simp [text_BadXML.l0] at h
  | k + 1 => by
    have ih0 := text_BadXML.mono_l k
    · intro y0 y1
      unfold text_BadXML.l0
      repeat' first
      | (with_reducible exact ih0 _ _)
      | (with_reducible exact text_First.mono _ _)
      | (with_reducible exact LeO.refl _)
      | (with_reducible exact LeO.none _)
      | (with_reducible refine LeO.ite ?_ ?_)
      | (with_reducible refine LeO.bind ?_ (fun _ => ?_))
      | exact ih0 _ _
      | exact text_First.mono _ _
      | exact LeO.none _
      | refine LeO.ite ?_ ?_
      | refine LeO.bind ?_ (fun _ => ?_)
theorem text_BadXML.mono : ∀ a0 k, LeO (text_BadXML.f k a0) (text_BadXML.f (k + 1) a0) := by
  intro a0 k
  have ih0 := text_BadXML.mono_l k
  unfold text_BadXML.f
  repeat' first
      | (with_reducible exact ih0 _ _)
      | (with_reducible exact text_First.mono _ _)
      | (with_reducible exact LeO.refl _)
      | (with_reducible exact LeO.none _)
      | (with_reducible refine LeO.ite ?_ ?_)
      | (with_reducible refine LeO.bind ?_ (fun _ => ?_))
      | exact ih0 _ _
      | exact text_First.mono _ _
      | exact LeO.none _
      | refine LeO.ite ?_ ?_
      | refine LeO.bind ?_ (fun _ => ?_)
set_option maxHeartbeats 8000000 in
set_option maxRecDepth 100000 in
theorem text_BadXML.calls (k : Nat) (a0 : ByteArray) (r : Int) (w : World) (h : text_BadXML.f k a0 = some r) :
    Calls Tryz.prog 47 #[.string a0] w fun e w' => e = .returned (.int .i64 r) ∧ Drawn0 w w' := by
  have H : (text_BadXML.l0 k a0 0) = some r := h
  clear h
  have H' := Aside0.mk H
  clear H
  go_enter Tryz.func47, Tryz.ntmps47
  go_wp2
  go_loopg [3] k (fun kq v3 w' => ∃ (x3_1 : Int), v3 = .int .i64 x3_1 ∧ Aside0 (text_BadXML.l0 kq a0 x3_1 = some r) ∧ Aside0 (kq ≤ k) ∧ Drawn0 w w')
  case atStart => exact ⟨(0), (by first | rfl | (simp; done) | (simp [*]; done)), H', ⟨Nat.le_refl _⟩, by repeat (first | exact Drawn0.refl _ | apply Drawn0.step)⟩
  case round =>
    clear H'
    obtain ⟨x3_1, rfl, HA, HK1, ⟨m1, rfl⟩⟩ := hrel
    cases gk with
    | zero => exact absurd HA.out (by simp [text_BadXML.l0])
    | succ k1 =>
      have H := HA.out
      clear HA
      simp only [text_BadXML.l0] at H
      by_cases c2 : x3_1 < (a0.size : Int)
      · rw [if_pos c2] at H
        have c2b0 : decide (x3_1 < (a0.size : Int)) = true := decide_eq_true c2
        clear c2
        by_cases c3 : 0 ≤ x3_1
        · rw [if_pos c3] at H
          have c3b0 := eq_true c3
          have c3b1 : decide (0 ≤ x3_1) = true := decide_eq_true c3
          clear c3
          by_cases c4 : x3_1 ≤ (a0.size : Int)
          · rw [if_pos c4] at H
            have c4b0 := eq_true c4
            have c4b1 : decide (x3_1 ≤ (a0.size : Int)) = true := decide_eq_true c4
            clear c4
            replace H := Option.bind_eq_some_iff.mp H
            obtain ⟨⟨t121, t122⟩, A50, H⟩ := H
            replace H : ((text_XML.f t121).bind fun t123 => (if t123 = true then (text_BadXML.l0 k1 a0 (wrap64 (x3_1 + t122))) else (some x3_1))) = some r := H
            have A5 := Aside0.mk A50
            clear A50
            replace H := Option.bind_eq_some_iff.mp H
            obtain ⟨t123, A60, H⟩ := H
            replace H : (if t123 = true then (text_BadXML.l0 k1 a0 (wrap64 (x3_1 + t122))) else (some x3_1)) = some r := H
            have A6 := Aside0.mk A60
            clear A60
            by_cases c7 : t123 = true
            · subst c7
              have H1 : (text_BadXML.l0 k1 a0 (wrap64 (x3_1 + t122))) = some r := by rw [if_pos rfl] at H; exact H
              clear H
              have H := H1
              clear H1
              have H' := Aside0.mk H
              clear H
              go_wp2_with (first | ((with_reducible refine gate_callee (f := 37) rfl ?_); refine goesL_ (some 14) rfl rfl Tryz.func37 (by kernel_rfl) rfl #[.string (a0.extract (x3_1 : Int).toNat a0.size)] rfl (by (try simp only [List.map_toArray, List.map_cons, List.map_nil]); first | done | rfl | (simp only [List.length_drop, List.length_take]; rfl)) ?_; (with_reducible refine (text_First.calls k1 (a0.extract (x3_1 : Int).toNat a0.size) t121 t122 _ A5.out).mono ?_); rintro e w' ⟨rfl, ⟨nd, rfl⟩⟩; refine ⟨_, rfl, ?_⟩) | ((with_reducible refine gate_callee (f := 49) rfl ?_); refine goesL_ (some 18) rfl rfl Tryz.func49 (by kernel_rfl) rfl #[.int .i64 t121] rfl (by (try simp only [List.map_toArray, List.map_cons, List.map_nil]); first | done | rfl | (simp only [List.length_drop, List.length_take]; rfl)) ?_; (with_reducible refine (text_XML.calls t121 true _ A6.out).mono ?_); rintro e w' ⟨rfl, ⟨nd, rfl⟩⟩; refine ⟨_, rfl, ?_⟩))
              go_roundg k1
              case measure => have := HK1.out; omega
              case rel => exact ⟨(wrap64 (x3_1 + t122)), (by first | rfl | (simp; done) | (simp [*]; done)), H', ⟨by have := HK1.out; omega⟩, by repeat (first | exact Drawn0.refl _ | apply Drawn0.step)⟩
            · replace c7 := Bool.eq_false_iff.mpr c7
              subst c7
              have H1 : (some x3_1) = some r := by rw [if_neg (show ¬ (false = true) by decide)] at H; exact H
              clear H
              have H := H1
              clear H1
              obtain rfl := Option.some.inj H
              go_wp2_with (first | ((with_reducible refine gate_callee (f := 37) rfl ?_); refine goesL_ (some 14) rfl rfl Tryz.func37 (by kernel_rfl) rfl #[.string (a0.extract (x3_1 : Int).toNat a0.size)] rfl (by (try simp only [List.map_toArray, List.map_cons, List.map_nil]); first | done | rfl | (simp only [List.length_drop, List.length_take]; rfl)) ?_; (with_reducible refine (text_First.calls k1 (a0.extract (x3_1 : Int).toNat a0.size) t121 t122 _ A5.out).mono ?_); rintro e w' ⟨rfl, ⟨nd, rfl⟩⟩; refine ⟨_, rfl, ?_⟩) | ((with_reducible refine gate_callee (f := 49) rfl ?_); refine goesL_ (some 18) rfl rfl Tryz.func49 (by kernel_rfl) rfl #[.int .i64 t121] rfl (by (try simp only [List.map_toArray, List.map_cons, List.map_nil]); first | done | rfl | (simp only [List.length_drop, List.length_take]; rfl)) ?_; (with_reducible refine (text_XML.calls t121 false _ A6.out).mono ?_); rintro e w' ⟨rfl, ⟨nd, rfl⟩⟩; refine ⟨_, rfl, ?_⟩))
              go_ret
              exact ⟨by first | rfl | (simp; done) | (simp [*]; done), by repeat (first | exact Drawn0.refl _ | apply Drawn0.step)⟩
          · rw [if_neg c4] at H
            exact absurd H (by simp)
        · rw [if_neg c3] at H
          exact absurd H (by simp)
      · rw [if_neg c2] at H
        have c2b0 : decide (x3_1 < (a0.size : Int)) = false := decide_eq_false c2
        clear c2
        obtain rfl := Option.some.inj H
        go_wp2
        go_ret
        exact ⟨by first | rfl | (simp; done) | (simp [*]; done), by repeat (first | exact Drawn0.refl _ | apply Drawn0.step)⟩

/-! ### text_reference: function 48 -/
def text_reference.f (a0 : Int) (a1 : Bool) : Option (ByteArray) := if a0 = 38 then (some (⟨#[38, 97, 109, 112, 59]⟩ : ByteArray)) else (if a0 = 60 then (some (⟨#[38, 108, 116, 59]⟩ : ByteArray)) else (if a0 = 62 then (some (⟨#[38, 103, 116, 59]⟩ : ByteArray)) else (if a0 = 13 then (some (⟨#[38, 35, 49, 51, 59]⟩ : ByteArray)) else (if a1 = true then (if a0 = 34 then (some (⟨#[38, 113, 117, 111, 116, 59]⟩ : ByteArray)) else (if a0 = 9 then (some (⟨#[38, 35, 57, 59]⟩ : ByteArray)) else (if a0 = 10 then (some (⟨#[38, 35, 49, 48, 59]⟩ : ByteArray)) else (some (⟨#[]⟩ : ByteArray))))) else (some (⟨#[]⟩ : ByteArray))))))
set_option maxHeartbeats 8000000 in
set_option maxRecDepth 100000 in
theorem text_reference.calls (a0 : Int) (a1 : Bool) (r : ByteArray) (w : World) (h : text_reference.f a0 a1 = some r) :
    Calls Tryz.prog 48 #[.int .u8 a0, .bool a1] w fun e w' => e = .returned (.string r) ∧ Drawn0 w w' := by
  have H : (if a0 = 38 then (some (⟨#[38, 97, 109, 112, 59]⟩ : ByteArray)) else (if a0 = 60 then (some (⟨#[38, 108, 116, 59]⟩ : ByteArray)) else (if a0 = 62 then (some (⟨#[38, 103, 116, 59]⟩ : ByteArray)) else (if a0 = 13 then (some (⟨#[38, 35, 49, 51, 59]⟩ : ByteArray)) else (if a1 = true then (if a0 = 34 then (some (⟨#[38, 113, 117, 111, 116, 59]⟩ : ByteArray)) else (if a0 = 9 then (some (⟨#[38, 35, 57, 59]⟩ : ByteArray)) else (if a0 = 10 then (some (⟨#[38, 35, 49, 48, 59]⟩ : ByteArray)) else (some (⟨#[]⟩ : ByteArray))))) else (some (⟨#[]⟩ : ByteArray))))))) = some r := h
  clear h
  by_cases c3 : a0 = 38
  · rw [if_pos c3] at H
    have c3b0 : (a0 == 38) = true := beq_iff_eq.mpr c3
    have c3b1 : (a0 != 38) = false := bne_eq_false_iff_eq.mpr c3
    clear c3
    obtain rfl := Option.some.inj H
    go_enter Tryz.func48, Tryz.ntmps48
    go_wp2
    go_ret
    exact ⟨by first | rfl | (simp; done) | (simp [*]; done), by repeat (first | exact Drawn0.refl _ | apply Drawn0.step)⟩
  · rw [if_neg c3] at H
    have c3b0 : (a0 == 38) = false := beq_eq_false_iff_ne.mpr c3
    have c3b1 : (a0 != 38) = true := bne_iff_ne.mpr c3
    by_cases c4 : a0 = 60
    · rw [if_pos c4] at H
      have c4b0 : (a0 == 60) = true := beq_iff_eq.mpr c4
      have c4b1 : (a0 != 60) = false := bne_eq_false_iff_eq.mpr c4
      clear c4
      obtain rfl := Option.some.inj H
      go_enter Tryz.func48, Tryz.ntmps48
      go_wp2
      go_ret
      exact ⟨by first | rfl | (simp; done) | (simp [*]; done), by repeat (first | exact Drawn0.refl _ | apply Drawn0.step)⟩
    · rw [if_neg c4] at H
      have c4b0 : (a0 == 60) = false := beq_eq_false_iff_ne.mpr c4
      have c4b1 : (a0 != 60) = true := bne_iff_ne.mpr c4
      by_cases c5 : a0 = 62
      · rw [if_pos c5] at H
        have c5b0 : (a0 == 62) = true := beq_iff_eq.mpr c5
        have c5b1 : (a0 != 62) = false := bne_eq_false_iff_eq.mpr c5
        clear c5
        obtain rfl := Option.some.inj H
        go_enter Tryz.func48, Tryz.ntmps48
        go_wp2
        go_ret
        exact ⟨by first | rfl | (simp; done) | (simp [*]; done), by repeat (first | exact Drawn0.refl _ | apply Drawn0.step)⟩
      · rw [if_neg c5] at H
        have c5b0 : (a0 == 62) = false := beq_eq_false_iff_ne.mpr c5
        have c5b1 : (a0 != 62) = true := bne_iff_ne.mpr c5
        by_cases c6 : a0 = 13
        · rw [if_pos c6] at H
          have c6b0 : (a0 == 13) = true := beq_iff_eq.mpr c6
          have c6b1 : (a0 != 13) = false := bne_eq_false_iff_eq.mpr c6
          clear c6
          obtain rfl := Option.some.inj H
          go_enter Tryz.func48, Tryz.ntmps48
          go_wp2
          go_ret
          exact ⟨by first | rfl | (simp; done) | (simp [*]; done), by repeat (first | exact Drawn0.refl _ | apply Drawn0.step)⟩
        · rw [if_neg c6] at H
          have c6b0 : (a0 == 13) = false := beq_eq_false_iff_ne.mpr c6
          have c6b1 : (a0 != 13) = true := bne_iff_ne.mpr c6
          by_cases c7 : a1 = true
          · subst c7
            have H1 : (if a0 = 34 then (some (⟨#[38, 113, 117, 111, 116, 59]⟩ : ByteArray)) else (if a0 = 9 then (some (⟨#[38, 35, 57, 59]⟩ : ByteArray)) else (if a0 = 10 then (some (⟨#[38, 35, 49, 48, 59]⟩ : ByteArray)) else (some (⟨#[]⟩ : ByteArray))))) = some r := by rw [if_pos rfl] at H; exact H
            clear H
            have H := H1
            clear H1
            by_cases c8 : a0 = 34
            · rw [if_pos c8] at H
              have c8b0 : (a0 == 34) = true := beq_iff_eq.mpr c8
              have c8b1 : (a0 != 34) = false := bne_eq_false_iff_eq.mpr c8
              clear c8
              obtain rfl := Option.some.inj H
              go_enter Tryz.func48, Tryz.ntmps48
              go_wp2
              go_ret
              exact ⟨by first | rfl | (simp; done) | (simp [*]; done), by repeat (first | exact Drawn0.refl _ | apply Drawn0.step)⟩
            · rw [if_neg c8] at H
              have c8b0 : (a0 == 34) = false := beq_eq_false_iff_ne.mpr c8
              have c8b1 : (a0 != 34) = true := bne_iff_ne.mpr c8
              by_cases c9 : a0 = 9
              · rw [if_pos c9] at H
                have c9b0 : (a0 == 9) = true := beq_iff_eq.mpr c9
                have c9b1 : (a0 != 9) = false := bne_eq_false_iff_eq.mpr c9
                clear c9
                obtain rfl := Option.some.inj H
                go_enter Tryz.func48, Tryz.ntmps48
                go_wp2
                go_ret
                exact ⟨by first | rfl | (simp; done) | (simp [*]; done), by repeat (first | exact Drawn0.refl _ | apply Drawn0.step)⟩
              · rw [if_neg c9] at H
                have c9b0 : (a0 == 9) = false := beq_eq_false_iff_ne.mpr c9
                have c9b1 : (a0 != 9) = true := bne_iff_ne.mpr c9
                by_cases c10 : a0 = 10
                · rw [if_pos c10] at H
                  have c10b0 : (a0 == 10) = true := beq_iff_eq.mpr c10
                  have c10b1 : (a0 != 10) = false := bne_eq_false_iff_eq.mpr c10
                  clear c10
                  obtain rfl := Option.some.inj H
                  go_enter Tryz.func48, Tryz.ntmps48
                  go_wp2
                  go_ret
                  exact ⟨by first | rfl | (simp; done) | (simp [*]; done), by repeat (first | exact Drawn0.refl _ | apply Drawn0.step)⟩
                · rw [if_neg c10] at H
                  have c10b0 : (a0 == 10) = false := beq_eq_false_iff_ne.mpr c10
                  have c10b1 : (a0 != 10) = true := bne_iff_ne.mpr c10
                  obtain rfl := Option.some.inj H
                  go_enter Tryz.func48, Tryz.ntmps48
                  go_wp2
                  go_ret
                  exact ⟨by first | rfl | (simp; done) | (simp [*]; done), by repeat (first | exact Drawn0.refl _ | apply Drawn0.step)⟩
          · replace c7 := Bool.eq_false_iff.mpr c7
            subst c7
            have H1 : (some (⟨#[]⟩ : ByteArray)) = some r := by rw [if_neg (show ¬ (false = true) by decide)] at H; exact H
            clear H
            have H := H1
            clear H1
            obtain rfl := Option.some.inj H
            go_enter Tryz.func48, Tryz.ntmps48
            go_wp2
            go_ret
            exact ⟨by first | rfl | (simp; done) | (simp [*]; done), by repeat (first | exact Drawn0.refl _ | apply Drawn0.step)⟩

/-! ### emendlaw1_few: function 4 -/
def emendlaw1_few.f (a0 : ByteArray) (a1 : Int) : Option (ByteArray) := if (a0.size : Int) > a1 then (if 0 ≤ a1 then (if a1 ≤ (a0.size : Int) then (some (a0.extract 0 (a1 : Int).toNat)) else (none)) else (none)) else (some a0)
set_option maxHeartbeats 8000000 in
set_option maxRecDepth 100000 in
theorem emendlaw1_few.calls (a0 : ByteArray) (a1 : Int) (r : ByteArray) (w : World) (h : emendlaw1_few.f a0 a1 = some r) :
    Calls Tryz.prog 4 #[.string a0, .int .i64 a1] w fun e w' => e = .returned (.string r) ∧ Drawn0 w w' := by
  have H : (if (a0.size : Int) > a1 then (if 0 ≤ a1 then (if a1 ≤ (a0.size : Int) then (some (a0.extract 0 (a1 : Int).toNat)) else (none)) else (none)) else (some a0)) = some r := h
  clear h
  by_cases c3 : (a0.size : Int) > a1
  · rw [if_pos c3] at H
    have c3b0 : decide (a1 < (a0.size : Int)) = true := decide_eq_true c3
    clear c3
    by_cases c4 : 0 ≤ a1
    · rw [if_pos c4] at H
      have c4b0 := eq_true c4
      have c4b1 : decide (0 ≤ a1) = true := decide_eq_true c4
      clear c4
      by_cases c5 : a1 ≤ (a0.size : Int)
      · rw [if_pos c5] at H
        have c5b0 := eq_true c5
        have c5b1 : decide (a1 ≤ (a0.size : Int)) = true := decide_eq_true c5
        clear c5
        obtain rfl := Option.some.inj H
        go_enter Tryz.func4, Tryz.ntmps4
        go_wp2
        go_ret
        exact ⟨by first | rfl | (simp; done) | (simp [*]; done), by repeat (first | exact Drawn0.refl _ | apply Drawn0.step)⟩
      · rw [if_neg c5] at H
        exact absurd H (by simp)
    · rw [if_neg c4] at H
      exact absurd H (by simp)
  · rw [if_neg c3] at H
    have c3b0 : decide (a1 < (a0.size : Int)) = false := decide_eq_false c3
    clear c3
    obtain rfl := Option.some.inj H
    go_enter Tryz.func4, Tryz.ntmps4
    go_wp2
    go_ret
    exact ⟨by first | rfl | (simp; done) | (simp [*]; done), by repeat (first | exact Drawn0.refl _ | apply Drawn0.step)⟩

/-! ### emendbook_Same_int: function 26 -/
def emendbook_Same_int.l0 : Nat → List Int → List Int → Int → Option (Bool)
  | 0, _, _, _ => none
  | k + 1, x0, x1, x5 => if x5 < (x0.length : Int) then (if 0 ≤ x5 then (if x5 < (x1.length : Int) then (if (rd x0 x5) = (rd x1 x5) then (emendbook_Same_int.l0 k x0 x1 (wrap64 (x5 + 1))) else (some false)) else (none)) else (none)) else (some true)
def emendbook_Same_int.f (k : Nat) (l0 : List Int) (l1 : List Int) : Option (Bool) := if (l0.length : Int) = (l1.length : Int) then (emendbook_Same_int.l0 k l0 l1 0) else (some false)
theorem emendbook_Same_int.mono_l : ∀ k, (∀ y0 y1 y2, LeO (emendbook_Same_int.l0 k y0 y1 y2) (emendbook_Same_int.l0 (k + 1) y0 y1 y2))
  | 0 => fun _ _ _ r h => by simp [emendbook_Same_int.l0] at h
  | k + 1 => by
    have ih0 := emendbook_Same_int.mono_l k
    · intro y0 y1 y2
      unfold emendbook_Same_int.l0
      repeat' first
      | (with_reducible exact ih0 _ _ _)
      | (with_reducible exact LeO.refl _)
      | (with_reducible exact LeO.none _)
      | (with_reducible refine LeO.ite ?_ ?_)
      | (with_reducible refine LeO.bind ?_ (fun _ => ?_))
      | exact ih0 _ _ _
      | exact LeO.none _
      | refine LeO.ite ?_ ?_
      | refine LeO.bind ?_ (fun _ => ?_)
theorem emendbook_Same_int.mono : ∀ a0 a1 k, LeO (emendbook_Same_int.f k a0 a1) (emendbook_Same_int.f (k + 1) a0 a1) := by
  intro a0 a1 k
  have ih0 := emendbook_Same_int.mono_l k
  unfold emendbook_Same_int.f
  repeat' first
      | (with_reducible exact ih0 _ _ _)
      | (with_reducible exact LeO.refl _)
      | (with_reducible exact LeO.none _)
      | (with_reducible refine LeO.ite ?_ ?_)
      | (with_reducible refine LeO.bind ?_ (fun _ => ?_))
      | exact ih0 _ _ _
      | exact LeO.none _
      | refine LeO.ite ?_ ?_
      | refine LeO.bind ?_ (fun _ => ?_)
set_option maxHeartbeats 8000000 in
set_option maxRecDepth 100000 in
theorem emendbook_Same_int.calls (k : Nat) (A0 : Option Addr) (c0 : Nat) (l0 : List Int) (A1 : Option Addr) (c1 : Nat) (l1 : List Int) (r : Bool) (w : World) (hr0 : Kd.C (Kd.int .i64) w A0 l0.length l0) (hc0 : l0.length ≤ c0) (hr1 : Kd.C (Kd.int .i64) w A1 l1.length l1) (hc1 : l1.length ≤ c1) (h : emendbook_Same_int.f k l0 l1 = some r) :
    Calls Tryz.prog 26 #[.slice A0 l0.length c0, .slice A1 l1.length c1] w fun e w' => e = .returned (.bool r) ∧ Drawn0 w w' := by
  have HR0 := Aside0.mk hr0
  have HC0 := Aside0.mk hc0
  clear hr0 hc0
  have HR1 := Aside0.mk hr1
  have HC1 := Aside0.mk hc1
  clear hr1 hc1
  have H : (if (l0.length : Int) = (l1.length : Int) then (emendbook_Same_int.l0 k l0 l1 0) else (some false)) = some r := h
  clear h
  by_cases c3 : (l0.length : Int) = (l1.length : Int)
  · rw [if_pos c3] at H
    have c3b0 : ((l0.length : Int) == (l1.length : Int)) = true := beq_iff_eq.mpr c3
    have c3b1 : ((l0.length : Int) != (l1.length : Int)) = false := bne_eq_false_iff_eq.mpr c3
    have c3b2 : (l0.length == l1.length) = true := by first | simpa using c3 | (simp at c3 ⊢; omega)
    clear c3
    have H' := Aside0.mk H
    clear H
    go_enter Tryz.func26, Tryz.ntmps26
    go_wp2
    repeat (go_quiet (fail); try go_wp2)
    go_loopg [5] k (fun kq v5 w' => ∃ (x5_1 : Int), v5 = .int .i64 x5_1 ∧ Aside0 (emendbook_Same_int.l0 kq l0 l1 x5_1 = some r) ∧ Aside0 (kq ≤ k) ∧ Drawn0 w w')
    case atStart => exact ⟨(0), (by first | rfl | (simp; done) | (simp [*]; done)), H', ⟨Nat.le_refl _⟩, by repeat (first | exact Drawn0.refl _ | apply Drawn0.step)⟩
    case round =>
      clear H'
      try clear c1
      try clear c2
      try clear p2
      try clear c3
      try clear c3b0
      try clear c3b1
      try clear c3b2
      obtain ⟨x5_1, rfl, HA, HK1, ⟨m1, rfl⟩⟩ := hrel
      cases gk with
      | zero => exact absurd HA.out (by simp [emendbook_Same_int.l0])
      | succ k1 =>
        have H := HA.out
        clear HA
        simp only [emendbook_Same_int.l0] at H
        by_cases c4 : x5_1 < (l0.length : Int)
        · rw [if_pos c4] at H
          have c4b0 : decide (x5_1 < (l0.length : Int)) = true := decide_eq_true c4
          clear c4
          by_cases c5 : 0 ≤ x5_1
          · rw [if_pos c5] at H
            have c5b0 : decide (0 ≤ x5_1) = true := decide_eq_true c5
            clear c5
            by_cases c6 : x5_1 < (l1.length : Int)
            · rw [if_pos c6] at H
              have c6b0 : decide (x5_1 < (l1.length : Int)) = true := decide_eq_true c6
              clear c6
              by_cases c7 : (rd l0 x5_1) = (rd l1 x5_1)
              · rw [if_pos c7] at H
                have c7b0 : ((rd l0 x5_1) == (rd l1 x5_1)) = true := beq_iff_eq.mpr c7
                have c7b1 : ((rd l0 x5_1) != (rd l1 x5_1)) = false := bne_eq_false_iff_eq.mpr c7
                clear c7
                have H' := Aside0.mk H
                clear H
                have p124 : 0 ≤ (x5_1 : Int) := of_decide_eq_true (by first | (with_reducible assumption) | assumption)
                have q124 : x5_1 < (l0.length : Int) := of_decide_eq_true (by first | (with_reducible assumption) | assumption)
                obtain ⟨ad124, e124, hx124_0⟩ := Kd.at_int HR0.out x5_1 p124 q124
                cases e124
                replace p124 := eq_true p124
                replace q124 := eq_true q124
                have p125 : 0 ≤ (x5_1 : Int) := of_decide_eq_true (by first | (with_reducible assumption) | assumption)
                have q125 : x5_1 < (l1.length : Int) := of_decide_eq_true (by first | (with_reducible assumption) | assumption)
                obtain ⟨ad125, e125, hx125_0⟩ := Kd.at_int HR1.out x5_1 p125 q125
                cases e125
                replace p125 := eq_true p125
                replace q125 := eq_true q125
                go_wp2
                repeat (go_quiet (fail); try go_wp2)
                go_roundg k1
                case measure => have := HK1.out; omega
                case rel => exact ⟨(wrap64 (x5_1 + 1)), (by first | rfl | (simp; done) | (simp [*]; done)), H', ⟨by have := HK1.out; omega⟩, by repeat (first | exact Drawn0.refl _ | apply Drawn0.step)⟩
              · rw [if_neg c7] at H
                have c7b0 : ((rd l0 x5_1) == (rd l1 x5_1)) = false := beq_eq_false_iff_ne.mpr c7
                have c7b1 : ((rd l0 x5_1) != (rd l1 x5_1)) = true := bne_iff_ne.mpr c7
                obtain rfl := Option.some.inj H
                have p124 : 0 ≤ (x5_1 : Int) := of_decide_eq_true (by first | (with_reducible assumption) | assumption)
                have q124 : x5_1 < (l0.length : Int) := of_decide_eq_true (by first | (with_reducible assumption) | assumption)
                obtain ⟨ad124, e124, hx124_0⟩ := Kd.at_int HR0.out x5_1 p124 q124
                cases e124
                replace p124 := eq_true p124
                replace q124 := eq_true q124
                have p125 : 0 ≤ (x5_1 : Int) := of_decide_eq_true (by first | (with_reducible assumption) | assumption)
                have q125 : x5_1 < (l1.length : Int) := of_decide_eq_true (by first | (with_reducible assumption) | assumption)
                obtain ⟨ad125, e125, hx125_0⟩ := Kd.at_int HR1.out x5_1 p125 q125
                cases e125
                replace p125 := eq_true p125
                replace q125 := eq_true q125
                go_wp2
                repeat (go_quiet (fail); try go_wp2)
                go_ret
                exact ⟨by first | rfl | (simp; done) | (simp [*]; done), by repeat (first | exact Drawn0.refl _ | apply Drawn0.step)⟩
            · rw [if_neg c6] at H
              exact absurd H (by simp)
          · rw [if_neg c5] at H
            exact absurd H (by simp)
        · rw [if_neg c4] at H
          have c4b0 : decide (x5_1 < (l0.length : Int)) = false := decide_eq_false c4
          clear c4
          obtain rfl := Option.some.inj H
          go_wp2
          repeat (go_quiet (fail); try go_wp2)
          go_ret
          exact ⟨by first | rfl | (simp; done) | (simp [*]; done), by repeat (first | exact Drawn0.refl _ | apply Drawn0.step)⟩
  · rw [if_neg c3] at H
    have c3b0 : ((l0.length : Int) == (l1.length : Int)) = false := beq_eq_false_iff_ne.mpr c3
    have c3b1 : ((l0.length : Int) != (l1.length : Int)) = true := bne_iff_ne.mpr c3
    have c3b2 : (l0.length == l1.length) = false := by first | simpa using c3 | (simp at c3 ⊢; omega)
    obtain rfl := Option.some.inj H
    go_enter Tryz.func26, Tryz.ntmps26
    go_wp2
    repeat (go_quiet (fail); try go_wp2)
    go_ret
    exact ⟨by first | rfl | (simp; done) | (simp [*]; done), by repeat (first | exact Drawn0.refl _ | apply Drawn0.step)⟩

/-- THE ONE PURE STATEMENT of emendbook_Same_int: yours. -/
def emendbook_Same_int.Pure : Prop := ∀ (l0 : List Int) (l1 : List Int), l0.length ≤ maxLen → l0.length * 8 ≤ 140737488351232 → (∀ x ∈ l0, (Lit.int .i64 x).wf = true) → l1.length ≤ maxLen → l1.length * 8 ≤ 140737488351232 → (∀ x ∈ l1, (Lit.int .i64 x).wf = true) → ∃ k, emendbook_Same_int.f k l0 l1 = some true
theorem emendbook_Same_int.walk (P : emendbook_Same_int.Pure) (a0 : Option Addr) (len0 cap0 : Nat) (z0 : List Int) (a1 : Option Addr) (len1 cap1 : Nat) (z1 : List Int) (w : World) (w0 : (a0 = none ∧ len0 = 0 ∧ cap0 = 0 ∧ z0 = []) ∨ ∃ x, a0 = some x ∧ len0 ≤ cap0 ∧ cap0 ≤ maxLen ∧ z0.length = cap0 ∧ (∀ i, i < z0.length → w.cell? (x.add i) = some (.int .i64 (z0.getD i 0))) ∧ ∀ n ∈ z0, (Lit.int .i64 n).wf = true) (y0 : len0 * 8 ≤ 140737488351232) (w1 : (a1 = none ∧ len1 = 0 ∧ cap1 = 0 ∧ z1 = []) ∨ ∃ x, a1 = some x ∧ len1 ≤ cap1 ∧ cap1 ≤ maxLen ∧ z1.length = cap1 ∧ (∀ i, i < z1.length → w.cell? (x.add i) = some (.int .i64 (z1.getD i 0))) ∧ ∀ n ∈ z1, (Lit.int .i64 n).wf = true) (y1 : len1 * 8 ≤ 140737488351232) :
    Calls Tryz.prog 26 #[.slice a0 len0 cap0, .slice a1 len1 cap1] w fun e w' => e = .returned (.bool true) ∧ Below w.heap.size w w' := by
  obtain ⟨l0, rfl, hr0, hm0, hw0, hc0⟩ := ReadsInt.ofRowC w0
  obtain ⟨l1, rfl, hr1, hm1, hw1, hc1⟩ := ReadsInt.ofRowC w1
  obtain ⟨k, h⟩ := P l0 l1 hm0 y0 hw0 hm1 y1 hw1
  refine (emendbook_Same_int.calls k _ _ l0 _ _ l1 true w (Kd.C_of_reads (d := (0 : Int)) (h1 := fun _ => rfl) hr0) hc0 (Kd.C_of_reads (d := (0 : Int)) (h1 := fun _ => rfl) hr1) hc1 h).mono ?_
  rintro e w' ⟨rfl, hd⟩
  exact ⟨rfl, hd.below⟩

/-! ### emendref1_Char: function 52 -/
def emendref1_Char.f (a0 : Int) : Option (Bool) := if a0 ≥ 0 then (if a0 ≤ 1114111 then (if a0 < 55296 then (some true) else (some (decide (a0 > 57343)))) else (some false)) else (some false)
set_option maxHeartbeats 8000000 in
set_option maxRecDepth 100000 in
theorem emendref1_Char.calls (a0 : Int) (r : Bool) (w : World) (h : emendref1_Char.f a0 = some r) :
    Calls Tryz.prog 52 #[.int .i64 a0] w fun e w' => e = .returned (.bool r) ∧ Drawn0 w w' := by
  have H : (if a0 ≥ 0 then (if a0 ≤ 1114111 then (if a0 < 55296 then (some true) else (some (decide (a0 > 57343)))) else (some false)) else (some false)) = some r := h
  clear h
  by_cases c2 : a0 ≥ 0
  · rw [if_pos c2] at H
    have c2b0 : decide (0 ≤ a0) = true := decide_eq_true c2
    clear c2
    by_cases c3 : a0 ≤ 1114111
    · rw [if_pos c3] at H
      have c3b0 : decide (a0 ≤ 1114111) = true := decide_eq_true c3
      clear c3
      by_cases c4 : a0 < 55296
      · rw [if_pos c4] at H
        have c4b0 : decide (a0 < 55296) = true := decide_eq_true c4
        clear c4
        obtain rfl := Option.some.inj H
        go_enter Tryz.func52, Tryz.ntmps52
        go_wp2
        go_ret
        exact ⟨by first | rfl | (simp; done) | (simp [*]; done), by repeat (first | exact Drawn0.refl _ | apply Drawn0.step)⟩
      · rw [if_neg c4] at H
        have c4b0 : decide (a0 < 55296) = false := decide_eq_false c4
        clear c4
        obtain rfl := Option.some.inj H
        go_enter Tryz.func52, Tryz.ntmps52
        go_wp2
        go_ret
        exact ⟨by first | rfl | (simp; done) | (simp [*]; done), by repeat (first | exact Drawn0.refl _ | apply Drawn0.step)⟩
    · rw [if_neg c3] at H
      have c3b0 : decide (a0 ≤ 1114111) = false := decide_eq_false c3
      clear c3
      obtain rfl := Option.some.inj H
      go_enter Tryz.func52, Tryz.ntmps52
      go_wp2
      go_ret
      exact ⟨by first | rfl | (simp; done) | (simp [*]; done), by repeat (first | exact Drawn0.refl _ | apply Drawn0.step)⟩
  · rw [if_neg c2] at H
    have c2b0 : decide (0 ≤ a0) = false := decide_eq_false c2
    clear c2
    obtain rfl := Option.some.inj H
    go_enter Tryz.func52, Tryz.ntmps52
    go_wp2
    go_ret
    exact ⟨by first | rfl | (simp; done) | (simp [*]; done), by repeat (first | exact Drawn0.refl _ | apply Drawn0.step)⟩

end Go.Proofs.YtgdfgahpjebcaaaGreatDoor.PT
