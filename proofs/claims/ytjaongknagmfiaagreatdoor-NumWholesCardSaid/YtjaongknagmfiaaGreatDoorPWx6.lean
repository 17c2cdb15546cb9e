-- PRINTED by print.py (a twelfth state) out of the translation. Not trusted: Lean checks it.
import Derived.Test.YtjaongknagmfiaaGreatDoorPWx0
import Derived.Test.YtjaongknagmfiaaGreatDoorPWx5
namespace Go.Proofs.YtjaongknagmfiaaGreatDoor.PW
open Go.RowKit Go.Proofs.YtjaongknagmfiaaGreatDoorW.PrintWords Go.Proofs.YtjaongknagmfiaaGreatDoorW.PrintLast Go.Proofs.YtjaongknagmfiaaGreatDoorW.PrintMore
attribute [local go_sem] max2_int min2_int max_two min_two max_three min_three max_four min_four   -- for this text's walks alone
set_option linter.unusedVariables false
set_option linter.unusedSimpArgs false

/-! ### emendref2_Whole: function 18 -/
mutual
def emendref2_Whole.j0 : Nat → ByteArray → Int → Bool → Option (ByteArray × Int)
 | 0, _, _, _ => none
 | k + 1, x0, x1, x19 => if x19 = true then (some ((⟨#[]⟩ : ByteArray), 1)) else (emendref2_Whole.l0 k x0 x1 0)
def emendref2_Whole.l0 : Nat → ByteArray → Int → Int → Option (ByteArray × Int)
 | 0, _, _, _ => none
 | k + 1, x0, x1, x6 => if x6 < (x0.size : Int) then (if 0 ≤ x6 then (if (bt x0 x6) = 95 then (if x6 > 0 then (if (wrap64 (x6 + 1)) < (x0.size : Int) then (if 0 ≤ (wrap64 (x6 - 1)) then (if (wrap64 (x6 - 1)) < (x0.size : Int) then ((emendref2_value.f k (bt x0 (wrap64 (x6 - 1))) x1).bind fun t134 => (if t134 ≥ 0 then (if 0 ≤ (wrap64 (x6 + 1)) then ((emendref2_value.f k (bt x0 (wrap64 (x6 + 1))) x1).bind fun t135 => (if t135 ≥ 0 then (emendref2_Whole.l0 k x0 x1 (wrap64 (x6 + 1))) else ((emendref2_value.f k (bt x0 x6) x1).bind fun t136 => (if t136 < 0 then (some ((⟨#[]⟩ : ByteArray), 12)) else (emendref2_Whole.l0 k x0 x1 (wrap64 (x6 + 1))))))) else (none)) else ((emendref2_value.f k (bt x0 x6) x1).bind fun t137 => (if t137 < 0 then (some ((⟨#[]⟩ : ByteArray), 12)) else (emendref2_Whole.l0 k x0 x1 (wrap64 (x6 + 1))))))) else (none)) else (none)) else ((emendref2_value.f k (bt x0 x6) x1).bind fun t138 => (if t138 < 0 then (some ((⟨#[]⟩ : ByteArray), 12)) else (emendref2_Whole.l0 k x0 x1 (wrap64 (x6 + 1)))))) else ((emendref2_value.f k (bt x0 x6) x1).bind fun t139 => (if t139 < 0 then (some ((⟨#[]⟩ : ByteArray), 12)) else (emendref2_Whole.l0 k x0 x1 (wrap64 (x6 + 1)))))) else ((emendref2_value.f k (bt x0 x6) x1).bind fun t140 => (if t140 < 0 then (some ((⟨#[]⟩ : ByteArray), 12)) else (emendref2_Whole.l0 k x0 x1 (wrap64 (x6 + 1)))))) else (none)) else (if (x0.size : Int) = 0 then (some ((⟨#[]⟩ : ByteArray), 12)) else (emendref2_Whole.l1 k x0 x1 0 0))
def emendref2_Whole.l1 : Nat → ByteArray → Int → Int → Int → Option (ByteArray × Int)
 | 0, _, _, _, _ => none
 | k + 1, x0, x1, x8, x9 => if x9 < (x0.size : Int) then (if 0 ≤ x9 then (if (bt x0 x9) = 95 then (emendref2_Whole.l1 k x0 x1 x8 (wrap64 (x9 + 1))) else (if (IntKind.u64.wrap (x1)) = 0 then (none) else (if x8 > (IntKind.u64.wrap ((9223372036854775807 : Int) / (IntKind.u64.wrap (x1)))) then (some ((⟨#[]⟩ : ByteArray), 5)) else ((emendref2_value.f k (bt x0 x9) x1).bind fun t144 => (if (IntKind.u64.wrap ((IntKind.u64.wrap (x8 * (IntKind.u64.wrap (x1)))) + (IntKind.u64.wrap (t144)))) > 9223372036854775807 then (some ((⟨#[]⟩ : ByteArray), 5)) else (emendref2_Whole.l1 k x0 x1 (IntKind.u64.wrap ((IntKind.u64.wrap (x8 * (IntKind.u64.wrap (x1)))) + (IntKind.u64.wrap (t144)))) (wrap64 (x9 + 1)))))))) else (none)) else ((emendref2_Digits.f k (wrap64 (x8))).bind fun t141 => ((emendref2_Normal.f k t141).bind fun bt142 => (some (bt142.1, bt142.2))))
end
def emendref2_Whole.f (k : Nat) (a0 : ByteArray) (a1 : Int) : Option (ByteArray × Int) := if a1 = 2 then (emendref2_Whole.j0 k a0 a1 false) else (if a1 = 8 then (emendref2_Whole.j0 k a0 a1 false) else (emendref2_Whole.j0 k a0 a1 (a1 != 16)))
theorem emendref2_Whole.mono_l : ∀ k, (∀ y0 y1 y2, LeO (emendref2_Whole.j0 k y0 y1 y2) (emendref2_Whole.j0 (k + 1) y0 y1 y2)) ∧ (∀ y0 y1 y2, LeO (emendref2_Whole.l0 k y0 y1 y2) (emendref2_Whole.l0 (k + 1) y0 y1 y2)) ∧ (∀ y0 y1 y2 y3, LeO (emendref2_Whole.l1 k y0 y1 y2 y3) (emendref2_Whole.l1 (k + 1) y0 y1 y2 y3))
 | 0 => ⟨fun _ _ _ r h => by simp [emendref2_Whole.j0] at h, fun _ _ _ r h => by simp [emendref2_Whole.l0] at h, fun _ _ _ _ r h => by simp [emendref2_Whole.l1] at h⟩
 | k + 1 => by
  obtain ⟨ih0, ih1, ih2⟩ := emendref2_Whole.mono_l k
  refine ⟨?_, ?_, ?_⟩
  ·
   intro y0 y1 y2
   unfold emendref2_Whole.j0
   repeat' first
   | (with_reducible exact ih0 _ _ _)
   | (with_reducible exact ih1 _ _ _)
   | (with_reducible exact ih2 _ _ _ _)
   | (with_reducible exact emendref2_Digits.mono _ _)
   | (with_reducible exact emendref2_Normal.mono _ _)
   | (with_reducible exact emendref2_value.mono _ _ _)
   | (with_reducible exact LeO.refl _)
   | (with_reducible exact LeO.none _)
   | (with_reducible refine LeO.ite ?_ ?_)
   | (with_reducible refine LeO.bind ?_ (fun _ => ?_))
   | exact ih0 _ _ _
   | exact ih1 _ _ _
   | exact ih2 _ _ _ _
   | exact emendref2_Digits.mono _ _
   | exact emendref2_Normal.mono _ _
   | exact emendref2_value.mono _ _ _
   | exact LeO.none _
   | refine LeO.ite ?_ ?_
   | refine LeO.bind ?_ (fun _ => ?_)
  ·
   intro y0 y1 y2
   unfold emendref2_Whole.l0
   repeat' first
   | (with_reducible exact ih0 _ _ _)
   | (with_reducible exact ih1 _ _ _)
   | (with_reducible exact ih2 _ _ _ _)
   | (with_reducible exact emendref2_Digits.mono _ _)
   | (with_reducible exact emendref2_Normal.mono _ _)
   | (with_reducible exact emendref2_value.mono _ _ _)
   | (with_reducible exact LeO.refl _)
   | (with_reducible exact LeO.none _)
   | (with_reducible refine LeO.ite ?_ ?_)
   | (with_reducible refine LeO.bind ?_ (fun _ => ?_))
   | exact ih0 _ _ _
   | exact ih1 _ _ _
   | exact ih2 _ _ _ _
   | exact emendref2_Digits.mono _ _
   | exact emendref2_Normal.mono _ _
   | exact emendref2_value.mono _ _ _
   | exact LeO.none _
   | refine LeO.ite ?_ ?_
   | refine LeO.bind ?_ (fun _ => ?_)
  ·
   intro y0 y1 y2 y3
   unfold emendref2_Whole.l1
   repeat' first
   | (with_reducible exact ih0 _ _ _)
   | (with_reducible exact ih1 _ _ _)
   | (with_reducible exact ih2 _ _ _ _)
   | (with_reducible exact emendref2_Digits.mono _ _)
   | (with_reducible exact emendref2_Normal.mono _ _)
   | (with_reducible exact emendref2_value.mono _ _ _)
   | (with_reducible exact LeO.refl _)
   | (with_reducible exact LeO.none _)
   | (with_reducible refine LeO.ite ?_ ?_)
   | (with_reducible refine LeO.bind ?_ (fun _ => ?_))
   | exact ih0 _ _ _
   | exact ih1 _ _ _
   | exact ih2 _ _ _ _
   | exact emendref2_Digits.mono _ _
   | exact emendref2_Normal.mono _ _
   | exact emendref2_value.mono _ _ _
   | exact LeO.none _
   | refine LeO.ite ?_ ?_
   | refine LeO.bind ?_ (fun _ => ?_)
theorem emendref2_Whole.mono : ∀ a0 a1 k, LeO (emendref2_Whole.f k a0 a1) (emendref2_Whole.f (k + 1) a0 a1) := by
 intro a0 a1 k
 obtain ⟨ih0, ih1, ih2⟩ := emendref2_Whole.mono_l k
 unfold emendref2_Whole.f
 repeat' first
   | (with_reducible exact ih0 _ _ _)
   | (with_reducible exact ih1 _ _ _)
   | (with_reducible exact ih2 _ _ _ _)
   | (with_reducible exact emendref2_Digits.mono _ _)
   | (with_reducible exact emendref2_Normal.mono _ _)
   | (with_reducible exact emendref2_value.mono _ _ _)
   | (with_reducible exact LeO.refl _)
   | (with_reducible exact LeO.none _)
   | (with_reducible refine LeO.ite ?_ ?_)
   | (with_reducible refine LeO.bind ?_ (fun _ => ?_))
   | exact ih0 _ _ _
   | exact ih1 _ _ _
   | exact ih2 _ _ _ _
   | exact emendref2_Digits.mono _ _
   | exact emendref2_Normal.mono _ _
   | exact emendref2_value.mono _ _ _
   | exact LeO.none _
   | refine LeO.ite ?_ ?_
   | refine LeO.bind ?_ (fun _ => ?_)
set_option maxHeartbeats 8000000 in
set_option maxRecDepth 100000 in
theorem emendref2_Whole.calls (k : Nat) (a0 : ByteArray) (a1 : Int) (r1 : ByteArray) (r2 : Int) (w : World) (h : emendref2_Whole.f k a0 a1 = some (r1, r2)) :
  Calls Tryz.prog 18 #[.string a0, .int .i64 a1] w fun e w' => e = .returned (.tuple #[.string r1, .int .i64 r2]) ∧ Below w.heap.size w w' := by
 have HB := Aside0.mk (Below.refl w.heap.size w)
 have H : (if a1 = 2 then (emendref2_Whole.j0 k a0 a1 false) else (if a1 = 8 then (emendref2_Whole.j0 k a0 a1 false) else (emendref2_Whole.j0 k a0 a1 (a1 != 16)))) = some (r1, r2) := h
 clear h
 have HC3 := Aside0.mk H
 clear H
 go_enter Tryz.func18, Tryz.ntmps18
 go_upto_region 1 with (fail)
 go_cut [19] (fun v19 wc => ∃ (kq : Nat) (x19_2 : Bool), v19 = .bool x19_2 ∧ Aside0 (emendref2_Whole.j0 kq a0 a1 x19_2 = some (r1, r2)) ∧ Aside0 (kq ≤ k) ∧ Aside0 (Below w.heap.size w wc))
 case first =>
  have H := HC3.out
  clear HC3
  by_cases c4 : a1 = 2
  ·
   rw [if_pos c4] at H
   have c4b0 : (a1 == 2) = true := beq_iff_eq.mpr c4
   have c4b1 : (a1 != 2) = false := bne_eq_false_iff_eq.mpr c4
   clear c4
   (first | rw [c4b0] | (simp only [i64_w, i32_w]; rw [c4b0]) | skip)
   have H' := Aside0.mk H
   clear H
   go_wp2
   go_meet
   case rel => exact ⟨_, (false), (by first | rfl | (simp; done) | (simp [*]; done) | (congr 1; unfold wrap64; omega)), H', ⟨by first | omega | exact Nat.le_refl _⟩, ⟨by repeat (first | (with_reducible first | exact HB.out | apply below_alloc | apply pw_below_drewN | apply below_drew1) | exact HB.out)⟩⟩
  ·
   rw [if_neg c4] at H
   have c4b0 : (a1 == 2) = false := beq_eq_false_iff_ne.mpr c4
   have c4b1 : (a1 != 2) = true := bne_iff_ne.mpr c4
   (first | rw [c4b0] | (simp only [i64_w, i32_w]; rw [c4b0]) | skip)
   by_cases c5 : a1 = 8
   ·
    rw [if_pos c5] at H
    have c5b0 : (a1 == 8) = true := beq_iff_eq.mpr c5
    have c5b1 : (a1 != 8) = false := bne_eq_false_iff_eq.mpr c5
    clear c5
    have H' := Aside0.mk H
    clear H
    go_wp2
    go_meet
    case rel => exact ⟨_, (false), (by first | rfl | (simp; done) | (simp [*]; done) | (congr 1; unfold wrap64; omega)), H', ⟨by first | omega | exact Nat.le_refl _⟩, ⟨by repeat (first | (with_reducible first | exact HB.out | apply below_alloc | apply pw_below_drewN | apply below_drew1) | exact HB.out)⟩⟩
   ·
    rw [if_neg c5] at H
    have c5b0 : (a1 == 8) = false := beq_eq_false_iff_ne.mpr c5
    have c5b1 : (a1 != 8) = true := bne_iff_ne.mpr c5
    have H' := Aside0.mk H
    clear H
    go_wp2
    go_meet
    case rel => exact ⟨_, ((a1 != 16)), (by first | rfl | (simp; done) | (simp [*]; done) | (congr 1; unfold wrap64; omega)), H', ⟨by first | omega | exact Nat.le_refl _⟩, ⟨by repeat (first | (with_reducible first | exact HB.out | apply below_alloc | apply pw_below_drewN | apply below_drew1) | exact HB.out)⟩⟩
 case rest =>
  clear HC3
  try clear c1
  try clear p2
  try clear c4
  try clear c4b0
  try clear c4b1
  try clear c5
  try clear c5b0
  try clear c5b1
  obtain ⟨kq, x19_2, rfl, HA, HJ2, HB⟩ := hcut
  cases kq with
  | zero => exact absurd HA.out (by simp [emendref2_Whole.j0])
  | succ kj2 =>
   have H := HA.out
   clear HA
   simp only [emendref2_Whole.j0] at H
   by_cases c6 : x19_2 = true
   ·
    subst c6
    have H1 : (some ((⟨#[]⟩ : ByteArray), 1)) = some (r1, r2) := by rw [if_pos rfl] at H; exact H
    clear H
    have H := H1
    clear H1
    simp only [Option.some.injEq, Prod.mk.injEq] at H
    obtain ⟨rfl, rfl⟩ := H
    go_wp2
    go_ret2
    exact ⟨by first | rfl | (simp [errW_none, errW_some] <;> rfl) | (simp [*, errW_none, errW_some] <;> rfl), by repeat (first | (with_reducible first | exact HB.out | apply below_alloc | apply pw_below_drewN | apply below_drew1) | exact HB.out)⟩
   ·
    replace c6 := Bool.eq_false_iff.mpr c6
    subst c6
    have H1 : (emendref2_Whole.l0 kj2 a0 a1 0) = some (r1, r2) := by rw [if_neg (show ¬ (false = true) by decide)] at H; exact H
    clear H
    have H := H1
    clear H1
    have H' := Aside0.mk H
    clear H
    go_wp2
    go_loopg [6] kj2 (fun kq v6 w' => ∃ (x6_2 : Int), v6 = .int .i64 x6_2 ∧ Aside0 (emendref2_Whole.l0 kq a0 a1 x6_2 = some (r1, r2)) ∧ Aside0 (kq ≤ kj2) ∧ Aside0 (Below w.heap.size w w'))
    case atStart => exact ⟨(0), (by first | rfl | (simp; done) | (simp [*]; done) | (congr 1; unfold wrap64; omega)), H', ⟨Nat.le_refl _⟩, ⟨by repeat (first | (with_reducible first | exact HB.out | apply below_alloc | apply pw_below_drewN | apply below_drew1) | exact HB.out)⟩⟩
    case round =>
     clear H'
     try clear c1
     try clear p2
     try clear c4
     try clear c4b0
     try clear c4b1
     try clear c5
     try clear c5b0
     try clear c5b1
     try clear c6
     try clear p2
     obtain ⟨x6_2, rfl, HA, HK2, HB⟩ := hrel
     cases gk with
     | zero => exact absurd HA.out (by simp [emendref2_Whole.l0])
     | succ k2 =>
      have H := HA.out
      clear HA
      simp only [emendref2_Whole.l0] at H
      by_cases c7 : x6_2 < (a0.size : Int)
      ·
       rw [if_pos c7] at H
       have c7b0 : decide (x6_2 < (a0.size : Int)) = true := decide_eq_true c7
       clear c7
       by_cases c8 : 0 ≤ x6_2
       ·
        rw [if_pos c8] at H
        have c8b0 : decide (0 ≤ x6_2) = true := decide_eq_true c8
        clear c8
        by_cases c10 : (bt a0 x6_2) = 95
        ·
         rw [if_pos c10] at H
         have c10b0 : ((bt a0 x6_2) == 95) = true := beq_iff_eq.mpr c10
         have c10b1 : ((bt a0 x6_2) != 95) = false := bne_eq_false_iff_eq.mpr c10
         clear c10
         by_cases c11 : x6_2 > 0
         ·
          rw [if_pos c11] at H
          have c11b0 : decide (0 < x6_2) = true := decide_eq_true c11
          clear c11
          by_cases c12 : (wrap64 (x6_2 + 1)) < (a0.size : Int)
          ·
           rw [if_pos c12] at H
           have c12b0 : decide ((wrap64 (x6_2 + 1)) < (a0.size : Int)) = true := decide_eq_true c12
           clear c12
           obtain ⟨ji13, hji13⟩ : ∃ j_ : Int, (wrap64 (x6_2 - 1)) = j_ := ⟨_, rfl⟩
           replace H : (if 0 ≤ (ji13) then (if (ji13) < (a0.size : Int) then ((emendref2_value.f k2 (bt a0 (ji13)) a1).bind fun t134 => (if t134 ≥ 0 then (if 0 ≤ (wrap64 (x6_2 + 1)) then ((emendref2_value.f k2 (bt a0 (wrap64 (x6_2 + 1))) a1).bind fun t135 => (if t135 ≥ 0 then (emendref2_Whole.l0 k2 a0 a1 (wrap64 (x6_2 + 1))) else ((emendref2_value.f k2 (bt a0 x6_2) a1).bind fun t136 => (if t136 < 0 then (some ((⟨#[]⟩ : ByteArray), 12)) else (emendref2_Whole.l0 k2 a0 a1 (wrap64 (x6_2 + 1))))))) else (none)) else ((emendref2_value.f k2 (bt a0 x6_2) a1).bind fun t137 => (if t137 < 0 then (some ((⟨#[]⟩ : ByteArray), 12)) else (emendref2_Whole.l0 k2 a0 a1 (wrap64 (x6_2 + 1))))))) else (none)) else (none)) = some (r1, r2) := by first | (rw [hji13] at H; exact H) | (simp only [hji13] at H ⊢; exact H)
           have hji13w : (IntKind.i64.wrap (x6_2 - 1)) = ji13 := (i64_w _).trans hji13
           by_cases c14 : 0 ≤ (ji13)
           ·
            rw [if_pos c14] at H
            have c14b0 : decide (0 ≤ (ji13)) = true := decide_eq_true c14
            clear c14
            by_cases c15 : (ji13) < (a0.size : Int)
            ·
             rw [if_pos c15] at H
             have c15b0 : decide ((ji13) < (a0.size : Int)) = true := decide_eq_true c15
             clear c15
             replace H := Option.bind_eq_some_iff.mp H
             obtain ⟨t134, A170, H⟩ := H
             replace H : (if t134 ≥ 0 then (if 0 ≤ (wrap64 (x6_2 + 1)) then ((emendref2_value.f k2 (bt a0 (wrap64 (x6_2 + 1))) a1).bind fun t135 => (if t135 ≥ 0 then (emendref2_Whole.l0 k2 a0 a1 (wrap64 (x6_2 + 1))) else ((emendref2_value.f k2 (bt a0 x6_2) a1).bind fun t136 => (if t136 < 0 then (some ((⟨#[]⟩ : ByteArray), 12)) else (emendref2_Whole.l0 k2 a0 a1 (wrap64 (x6_2 + 1))))))) else (none)) else ((emendref2_value.f k2 (bt a0 x6_2) a1).bind fun t137 => (if t137 < 0 then (some ((⟨#[]⟩ : ByteArray), 12)) else (emendref2_Whole.l0 k2 a0 a1 (wrap64 (x6_2 + 1)))))) = some (r1, r2) := H
             have A17 := Aside0.mk A170
             clear A170
             by_cases c18 : t134 ≥ 0
             ·
              rw [if_pos c18] at H
              have c18b0 : decide (0 ≤ t134) = true := decide_eq_true c18
              clear c18
              obtain ⟨ji19, hji19⟩ : ∃ j_ : Int, (wrap64 (x6_2 + 1)) = j_ := ⟨_, rfl⟩
              replace H : (if 0 ≤ (ji19) then ((emendref2_value.f k2 (bt a0 (ji19)) a1).bind fun t135 => (if t135 ≥ 0 then (emendref2_Whole.l0 k2 a0 a1 ji19) else ((emendref2_value.f k2 (bt a0 x6_2) a1).bind fun t136 => (if t136 < 0 then (some ((⟨#[]⟩ : ByteArray), 12)) else (emendref2_Whole.l0 k2 a0 a1 ji19))))) else (none)) = some (r1, r2) := by first | (rw [hji19] at H; exact H) | (simp only [hji19] at H ⊢; exact H)
              (try rw [hji19] at c12b0)
              (try rw [hji19] at A17)
              have hji19w : (IntKind.i64.wrap (x6_2 + 1)) = ji19 := (i64_w _).trans hji19
              by_cases c20 : 0 ≤ (ji19)
              ·
               rw [if_pos c20] at H
               have c20b0 : decide (0 ≤ (ji19)) = true := decide_eq_true c20
               clear c20
               replace H := Option.bind_eq_some_iff.mp H
               obtain ⟨t135, A220, H⟩ := H
               replace H : (if t135 ≥ 0 then (emendref2_Whole.l0 k2 a0 a1 ji19) else ((emendref2_value.f k2 (bt a0 x6_2) a1).bind fun t136 => (if t136 < 0 then (some ((⟨#[]⟩ : ByteArray), 12)) else (emendref2_Whole.l0 k2 a0 a1 ji19)))) = some (r1, r2) := H
               have A22 := Aside0.mk A220
               clear A220
               by_cases c23 : t135 ≥ 0
               ·
                rw [if_pos c23] at H
                have c23b0 : decide (0 ≤ t135) = true := decide_eq_true c23
                clear c23
                have H' := Aside0.mk H
                clear H
                have p9 : 0 ≤ (x6_2 : Int) := of_decide_eq_true (by first | (with_reducible assumption) | assumption)
                have q9 : x6_2 < (a0.size : Int) := of_decide_eq_true (by first | (with_reducible assumption) | assumption)
                have hx9 := bt_at a0 x6_2
                replace p9 := eq_true p9
                replace q9 := eq_true q9
                have p16 : 0 ≤ ((ji13) : Int) := of_decide_eq_true (by first | (with_reducible assumption) | assumption)
                have q16 : (ji13) < (a0.size : Int) := of_decide_eq_true (by first | (with_reducible assumption) | assumption)
                have hx16 := bt_at a0 (ji13)
                replace p16 := eq_true p16
                replace q16 := eq_true q16
                go_wp2_with (first | (go_at_call 37; (with_reducible refine (emendref2_value.calls k2 (bt a0 (ji13)) a1 t134 _ A17.out).mono ?_); rintro e w' ⟨rfl, ⟨nd, rfl⟩⟩; have p21 : 0 ≤ ((ji19) : Int) := of_decide_eq_true (by first | (with_reducible assumption) | assumption); have q21 : (ji19) < (a0.size : Int) := of_decide_eq_true (by first | (with_reducible assumption) | assumption); have hx21 := bt_at a0 (ji19); replace p21 := eq_true p21; replace q21 := eq_true q21) | (go_at_call 37; (with_reducible refine (emendref2_value.calls k2 (bt a0 (ji19)) a1 t135 _ A22.out).mono ?_); rintro e w' ⟨rfl, ⟨nd, rfl⟩⟩))
                go_roundg k2
                case measure => have := HJ2.out; have := HK2.out; omega
                case rel => exact ⟨(ji19), (by first | rfl | (simp; done) | (simp only [← hji19] <;> (first | rfl | simp)) | (simp [*]; done)), (by first | (with_reducible exact H') | exact H' | (rw [hji19]; exact H') | (rw [hji13]; exact H') | (simp only [hji13, hji19]; exact H')), ⟨by have := HJ2.out; have := HK2.out; omega⟩, ⟨by repeat (first | (with_reducible first | exact HB.out | apply below_alloc | apply pw_below_drewN | apply below_drew1) | exact HB.out)⟩⟩
               ·
                rw [if_neg c23] at H
                have c23b0 : decide (0 ≤ t135) = false := decide_eq_false c23
                clear c23
                replace H := Option.bind_eq_some_iff.mp H
                obtain ⟨t136, A250, H⟩ := H
                replace H : (if t136 < 0 then (some ((⟨#[]⟩ : ByteArray), 12)) else (emendref2_Whole.l0 k2 a0 a1 ji19)) = some (r1, r2) := H
                have A25 := Aside0.mk A250
                clear A250
                by_cases c26 : t136 < 0
                ·
                 rw [if_pos c26] at H
                 have c26b0 : decide (t136 < 0) = true := decide_eq_true c26
                 clear c26
                 simp only [Option.some.injEq, Prod.mk.injEq] at H
                 obtain ⟨rfl, rfl⟩ := H
                 have p9 : 0 ≤ (x6_2 : Int) := of_decide_eq_true (by first | (with_reducible assumption) | assumption)
                 have q9 : x6_2 < (a0.size : Int) := of_decide_eq_true (by first | (with_reducible assumption) | assumption)
                 have hx9 := bt_at a0 x6_2
                 replace p9 := eq_true p9
                 replace q9 := eq_true q9
                 have p16 : 0 ≤ ((ji13) : Int) := of_decide_eq_true (by first | (with_reducible assumption) | assumption)
                 have q16 : (ji13) < (a0.size : Int) := of_decide_eq_true (by first | (with_reducible assumption) | assumption)
                 have hx16 := bt_at a0 (ji13)
                 replace p16 := eq_true p16
                 replace q16 := eq_true q16
                 go_wp2_with (first | (go_at_call 37; (with_reducible refine (emendref2_value.calls k2 (bt a0 (ji13)) a1 t134 _ A17.out).mono ?_); rintro e w' ⟨rfl, ⟨nd, rfl⟩⟩; have p21 : 0 ≤ ((ji19) : Int) := of_decide_eq_true (by first | (with_reducible assumption) | assumption); have q21 : (ji19) < (a0.size : Int) := of_decide_eq_true (by first | (with_reducible assumption) | assumption); have hx21 := bt_at a0 (ji19); replace p21 := eq_true p21; replace q21 := eq_true q21) | (go_at_call 37; (with_reducible refine (emendref2_value.calls k2 (bt a0 (ji19)) a1 t135 _ A22.out).mono ?_); rintro e w' ⟨rfl, ⟨nd, rfl⟩⟩; have p24 : 0 ≤ (x6_2 : Int) := of_decide_eq_true (by first | (with_reducible assumption) | assumption); have q24 : x6_2 < (a0.size : Int) := of_decide_eq_true (by first | (with_reducible assumption) | assumption); have hx24 := bt_at a0 x6_2; replace p24 := eq_true p24; replace q24 := eq_true q24) | (go_at_call 37; (with_reducible refine (emendref2_value.calls k2 (bt a0 x6_2) a1 t136 _ A25.out).mono ?_); rintro e w' ⟨rfl, ⟨nd, rfl⟩⟩))
                 go_ret2
                 exact ⟨by first | rfl | (simp [errW_none, errW_some] <;> rfl) | (simp only [← hji13, ← hji19]; first | rfl | (simp [errW_none, errW_some] <;> rfl)) | (simp [*, errW_none, errW_some] <;> rfl), by repeat (first | (with_reducible first | exact HB.out | apply below_alloc | apply pw_below_drewN | apply below_drew1) | exact HB.out)⟩
                ·
                 rw [if_neg c26] at H
                 have c26b0 : decide (t136 < 0) = false := decide_eq_false c26
                 clear c26
                 have H' := Aside0.mk H
                 clear H
                 have p9 : 0 ≤ (x6_2 : Int) := of_decide_eq_true (by first | (with_reducible assumption) | assumption)
                 have q9 : x6_2 < (a0.size : Int) := of_decide_eq_true (by first | (with_reducible assumption) | assumption)
                 have hx9 := bt_at a0 x6_2
                 replace p9 := eq_true p9
                 replace q9 := eq_true q9
                 have p16 : 0 ≤ ((ji13) : Int) := of_decide_eq_true (by first | (with_reducible assumption) | assumption)
                 have q16 : (ji13) < (a0.size : Int) := of_decide_eq_true (by first | (with_reducible assumption) | assumption)
                 have hx16 := bt_at a0 (ji13)
                 replace p16 := eq_true p16
                 replace q16 := eq_true q16
                 go_wp2_with (first | (go_at_call 37; (with_reducible refine (emendref2_value.calls k2 (bt a0 (ji13)) a1 t134 _ A17.out).mono ?_); rintro e w' ⟨rfl, ⟨nd, rfl⟩⟩; have p21 : 0 ≤ ((ji19) : Int) := of_decide_eq_true (by first | (with_reducible assumption) | assumption); have q21 : (ji19) < (a0.size : Int) := of_decide_eq_true (by first | (with_reducible assumption) | assumption); have hx21 := bt_at a0 (ji19); replace p21 := eq_true p21; replace q21 := eq_true q21) | (go_at_call 37; (with_reducible refine (emendref2_value.calls k2 (bt a0 (ji19)) a1 t135 _ A22.out).mono ?_); rintro e w' ⟨rfl, ⟨nd, rfl⟩⟩; have p24 : 0 ≤ (x6_2 : Int) := of_decide_eq_true (by first | (with_reducible assumption) | assumption); have q24 : x6_2 < (a0.size : Int) := of_decide_eq_true (by first | (with_reducible assumption) | assumption); have hx24 := bt_at a0 x6_2; replace p24 := eq_true p24; replace q24 := eq_true q24) | (go_at_call 37; (with_reducible refine (emendref2_value.calls k2 (bt a0 x6_2) a1 t136 _ A25.out).mono ?_); rintro e w' ⟨rfl, ⟨nd, rfl⟩⟩))
                 go_roundg k2
                 case measure => have := HJ2.out; have := HK2.out; omega
                 case rel => exact ⟨(ji19), (by first | rfl | (simp; done) | (simp only [← hji19] <;> (first | rfl | simp)) | (simp [*]; done)), (by first | (with_reducible exact H') | exact H' | (rw [hji19]; exact H') | (rw [hji13]; exact H') | (simp only [hji13, hji19]; exact H')), ⟨by have := HJ2.out; have := HK2.out; omega⟩, ⟨by repeat (first | (with_reducible first | exact HB.out | apply below_alloc | apply pw_below_drewN | apply below_drew1) | exact HB.out)⟩⟩
              ·
               rw [if_neg c20] at H
               exact absurd H (by simp)
             ·
              rw [if_neg c18] at H
              have c18b0 : decide (0 ≤ t134) = false := decide_eq_false c18
              clear c18
              replace H := Option.bind_eq_some_iff.mp H
              obtain ⟨t137, A280, H⟩ := H
              replace H : (if t137 < 0 then (some ((⟨#[]⟩ : ByteArray), 12)) else (emendref2_Whole.l0 k2 a0 a1 (wrap64 (x6_2 + 1)))) = some (r1, r2) := H
              have A28 := Aside0.mk A280
              clear A280
              by_cases c29 : t137 < 0
              ·
               rw [if_pos c29] at H
               have c29b0 : decide (t137 < 0) = true := decide_eq_true c29
               clear c29
               simp only [Option.some.injEq, Prod.mk.injEq] at H
               obtain ⟨rfl, rfl⟩ := H
               have p9 : 0 ≤ (x6_2 : Int) := of_decide_eq_true (by first | (with_reducible assumption) | assumption)
               have q9 : x6_2 < (a0.size : Int) := of_decide_eq_true (by first | (with_reducible assumption) | assumption)
               have hx9 := bt_at a0 x6_2
               replace p9 := eq_true p9
               replace q9 := eq_true q9
               have p16 : 0 ≤ ((ji13) : Int) := of_decide_eq_true (by first | (with_reducible assumption) | assumption)
               have q16 : (ji13) < (a0.size : Int) := of_decide_eq_true (by first | (with_reducible assumption) | assumption)
               have hx16 := bt_at a0 (ji13)
               replace p16 := eq_true p16
               replace q16 := eq_true q16
               go_wp2_with (first | (go_at_call 37; (with_reducible refine (emendref2_value.calls k2 (bt a0 (ji13)) a1 t134 _ A17.out).mono ?_); rintro e w' ⟨rfl, ⟨nd, rfl⟩⟩; have p27 : 0 ≤ (x6_2 : Int) := of_decide_eq_true (by first | (with_reducible assumption) | assumption); have q27 : x6_2 < (a0.size : Int) := of_decide_eq_true (by first | (with_reducible assumption) | assumption); have hx27 := bt_at a0 x6_2; replace p27 := eq_true p27; replace q27 := eq_true q27) | (go_at_call 37; (with_reducible refine (emendref2_value.calls k2 (bt a0 x6_2) a1 t137 _ A28.out).mono ?_); rintro e w' ⟨rfl, ⟨nd, rfl⟩⟩))
               go_ret2
               exact ⟨by first | rfl | (simp [errW_none, errW_some] <;> rfl) | (simp only [← hji13]; first | rfl | (simp [errW_none, errW_some] <;> rfl)) | (simp [*, errW_none, errW_some] <;> rfl), by repeat (first | (with_reducible first | exact HB.out | apply below_alloc | apply pw_below_drewN | apply below_drew1) | exact HB.out)⟩
              ·
               rw [if_neg c29] at H
               have c29b0 : decide (t137 < 0) = false := decide_eq_false c29
               clear c29
               have H' := Aside0.mk H
               clear H
               have p9 : 0 ≤ (x6_2 : Int) := of_decide_eq_true (by first | (with_reducible assumption) | assumption)
               have q9 : x6_2 < (a0.size : Int) := of_decide_eq_true (by first | (with_reducible assumption) | assumption)
               have hx9 := bt_at a0 x6_2
               replace p9 := eq_true p9
               replace q9 := eq_true q9
               have p16 : 0 ≤ ((ji13) : Int) := of_decide_eq_true (by first | (with_reducible assumption) | assumption)
               have q16 : (ji13) < (a0.size : Int) := of_decide_eq_true (by first | (with_reducible assumption) | assumption)
               have hx16 := bt_at a0 (ji13)
               replace p16 := eq_true p16
               replace q16 := eq_true q16
               go_wp2_with (first | (go_at_call 37; (with_reducible refine (emendref2_value.calls k2 (bt a0 (ji13)) a1 t134 _ A17.out).mono ?_); rintro e w' ⟨rfl, ⟨nd, rfl⟩⟩; have p27 : 0 ≤ (x6_2 : Int) := of_decide_eq_true (by first | (with_reducible assumption) | assumption); have q27 : x6_2 < (a0.size : Int) := of_decide_eq_true (by first | (with_reducible assumption) | assumption); have hx27 := bt_at a0 x6_2; replace p27 := eq_true p27; replace q27 := eq_true q27) | (go_at_call 37; (with_reducible refine (emendref2_value.calls k2 (bt a0 x6_2) a1 t137 _ A28.out).mono ?_); rintro e w' ⟨rfl, ⟨nd, rfl⟩⟩))
               go_roundg k2
               case measure => have := HJ2.out; have := HK2.out; omega
               case rel => exact ⟨(wrap64 (x6_2 + 1)), (by first | rfl | (simp; done) | (simp [*]; done) | (congr 1; unfold wrap64; omega)), (by first | (with_reducible exact H') | exact H' | (rw [hji19]; exact H') | (rw [hji13]; exact H') | (simp only [hji13, hji19]; exact H')), ⟨by have := HJ2.out; have := HK2.out; omega⟩, ⟨by repeat (first | (with_reducible first | exact HB.out | apply below_alloc | apply pw_below_drewN | apply below_drew1) | exact HB.out)⟩⟩
            ·
             rw [if_neg c15] at H
             exact absurd H (by simp)
           ·
            rw [if_neg c14] at H
            exact absurd H (by simp)
          ·
           rw [if_neg c12] at H
           have c12b0 : decide ((wrap64 (x6_2 + 1)) < (a0.size : Int)) = false := decide_eq_false c12
           clear c12
           replace H := Option.bind_eq_some_iff.mp H
           obtain ⟨t138, A310, H⟩ := H
           replace H : (if t138 < 0 then (some ((⟨#[]⟩ : ByteArray), 12)) else (emendref2_Whole.l0 k2 a0 a1 (wrap64 (x6_2 + 1)))) = some (r1, r2) := H
           have A31 := Aside0.mk A310
           clear A310
           by_cases c32 : t138 < 0
           ·
            rw [if_pos c32] at H
            have c32b0 : decide (t138 < 0) = true := decide_eq_true c32
            clear c32
            simp only [Option.some.injEq, Prod.mk.injEq] at H
            obtain ⟨rfl, rfl⟩ := H
            have p9 : 0 ≤ (x6_2 : Int) := of_decide_eq_true (by first | (with_reducible assumption) | assumption)
            have q9 : x6_2 < (a0.size : Int) := of_decide_eq_true (by first | (with_reducible assumption) | assumption)
            have hx9 := bt_at a0 x6_2
            replace p9 := eq_true p9
            replace q9 := eq_true q9
            have p30 : 0 ≤ (x6_2 : Int) := of_decide_eq_true (by first | (with_reducible assumption) | assumption)
            have q30 : x6_2 < (a0.size : Int) := of_decide_eq_true (by first | (with_reducible assumption) | assumption)
            have hx30 := bt_at a0 x6_2
            replace p30 := eq_true p30
            replace q30 := eq_true q30
            go_wp2_with (first | (go_at_call 37; (with_reducible refine (emendref2_value.calls k2 (bt a0 x6_2) a1 t138 _ A31.out).mono ?_); rintro e w' ⟨rfl, ⟨nd, rfl⟩⟩))
            go_ret2
            exact ⟨by first | rfl | (simp [errW_none, errW_some] <;> rfl) | (simp [*, errW_none, errW_some] <;> rfl), by repeat (first | (with_reducible first | exact HB.out | apply below_alloc | apply pw_below_drewN | apply below_drew1) | exact HB.out)⟩
           ·
            rw [if_neg c32] at H
            have c32b0 : decide (t138 < 0) = false := decide_eq_false c32
            clear c32
            have H' := Aside0.mk H
            clear H
            have p9 : 0 ≤ (x6_2 : Int) := of_decide_eq_true (by first | (with_reducible assumption) | assumption)
            have q9 : x6_2 < (a0.size : Int) := of_decide_eq_true (by first | (with_reducible assumption) | assumption)
            have hx9 := bt_at a0 x6_2
            replace p9 := eq_true p9
            replace q9 := eq_true q9
            have p30 : 0 ≤ (x6_2 : Int) := of_decide_eq_true (by first | (with_reducible assumption) | assumption)
            have q30 : x6_2 < (a0.size : Int) := of_decide_eq_true (by first | (with_reducible assumption) | assumption)
            have hx30 := bt_at a0 x6_2
            replace p30 := eq_true p30
            replace q30 := eq_true q30
            go_wp2_with (first | (go_at_call 37; (with_reducible refine (emendref2_value.calls k2 (bt a0 x6_2) a1 t138 _ A31.out).mono ?_); rintro e w' ⟨rfl, ⟨nd, rfl⟩⟩))
            go_roundg k2
            case measure => have := HJ2.out; have := HK2.out; omega
            case rel => exact ⟨(wrap64 (x6_2 + 1)), (by first | rfl | (simp; done) | (simp [*]; done) | (congr 1; unfold wrap64; omega)), (by first | (with_reducible exact H') | exact H' | (rw [hji13]; exact H') | (simp only [hji13]; exact H')), ⟨by have := HJ2.out; have := HK2.out; omega⟩, ⟨by repeat (first | (with_reducible first | exact HB.out | apply below_alloc | apply pw_below_drewN | apply below_drew1) | exact HB.out)⟩⟩
         ·
          rw [if_neg c11] at H
          have c11b0 : decide (0 < x6_2) = false := decide_eq_false c11
          clear c11
          replace H := Option.bind_eq_some_iff.mp H
          obtain ⟨t139, A340, H⟩ := H
          replace H : (if t139 < 0 then (some ((⟨#[]⟩ : ByteArray), 12)) else (emendref2_Whole.l0 k2 a0 a1 (wrap64 (x6_2 + 1)))) = some (r1, r2) := H
          have A34 := Aside0.mk A340
          clear A340
          by_cases c35 : t139 < 0
          ·
           rw [if_pos c35] at H
           have c35b0 : decide (t139 < 0) = true := decide_eq_true c35
           clear c35
           simp only [Option.some.injEq, Prod.mk.injEq] at H
           obtain ⟨rfl, rfl⟩ := H
           have p9 : 0 ≤ (x6_2 : Int) := of_decide_eq_true (by first | (with_reducible assumption) | assumption)
           have q9 : x6_2 < (a0.size : Int) := of_decide_eq_true (by first | (with_reducible assumption) | assumption)
           have hx9 := bt_at a0 x6_2
           replace p9 := eq_true p9
           replace q9 := eq_true q9
           have p33 : 0 ≤ (x6_2 : Int) := of_decide_eq_true (by first | (with_reducible assumption) | assumption)
           have q33 : x6_2 < (a0.size : Int) := of_decide_eq_true (by first | (with_reducible assumption) | assumption)
           have hx33 := bt_at a0 x6_2
           replace p33 := eq_true p33
           replace q33 := eq_true q33
           go_wp2_with (first | (go_at_call 37; (with_reducible refine (emendref2_value.calls k2 (bt a0 x6_2) a1 t139 _ A34.out).mono ?_); rintro e w' ⟨rfl, ⟨nd, rfl⟩⟩))
           go_ret2
           exact ⟨by first | rfl | (simp [errW_none, errW_some] <;> rfl) | (simp [*, errW_none, errW_some] <;> rfl), by repeat (first | (with_reducible first | exact HB.out | apply below_alloc | apply pw_below_drewN | apply below_drew1) | exact HB.out)⟩
          ·
           rw [if_neg c35] at H
           have c35b0 : decide (t139 < 0) = false := decide_eq_false c35
           clear c35
           have H' := Aside0.mk H
           clear H
           have p9 : 0 ≤ (x6_2 : Int) := of_decide_eq_true (by first | (with_reducible assumption) | assumption)
           have q9 : x6_2 < (a0.size : Int) := of_decide_eq_true (by first | (with_reducible assumption) | assumption)
           have hx9 := bt_at a0 x6_2
           replace p9 := eq_true p9
           replace q9 := eq_true q9
           have p33 : 0 ≤ (x6_2 : Int) := of_decide_eq_true (by first | (with_reducible assumption) | assumption)
           have q33 : x6_2 < (a0.size : Int) := of_decide_eq_true (by first | (with_reducible assumption) | assumption)
           have hx33 := bt_at a0 x6_2
           replace p33 := eq_true p33
           replace q33 := eq_true q33
           go_wp2_with (first | (go_at_call 37; (with_reducible refine (emendref2_value.calls k2 (bt a0 x6_2) a1 t139 _ A34.out).mono ?_); rintro e w' ⟨rfl, ⟨nd, rfl⟩⟩))
           go_roundg k2
           case measure => have := HJ2.out; have := HK2.out; omega
           case rel => exact ⟨(wrap64 (x6_2 + 1)), (by first | rfl | (simp; done) | (simp [*]; done) | (congr 1; unfold wrap64; omega)), H', ⟨by have := HJ2.out; have := HK2.out; omega⟩, ⟨by repeat (first | (with_reducible first | exact HB.out | apply below_alloc | apply pw_below_drewN | apply below_drew1) | exact HB.out)⟩⟩
        ·
         rw [if_neg c10] at H
         have c10b0 : ((bt a0 x6_2) == 95) = false := beq_eq_false_iff_ne.mpr c10
         have c10b1 : ((bt a0 x6_2) != 95) = true := bne_iff_ne.mpr c10
         replace H := Option.bind_eq_some_iff.mp H
         obtain ⟨t140, A370, H⟩ := H
         replace H : (if t140 < 0 then (some ((⟨#[]⟩ : ByteArray), 12)) else (emendref2_Whole.l0 k2 a0 a1 (wrap64 (x6_2 + 1)))) = some (r1, r2) := H
         have A37 := Aside0.mk A370
         clear A370
         by_cases c38 : t140 < 0
         ·
          rw [if_pos c38] at H
          have c38b0 : decide (t140 < 0) = true := decide_eq_true c38
          clear c38
          simp only [Option.some.injEq, Prod.mk.injEq] at H
          obtain ⟨rfl, rfl⟩ := H
          have p9 : 0 ≤ (x6_2 : Int) := of_decide_eq_true (by first | (with_reducible assumption) | assumption)
          have q9 : x6_2 < (a0.size : Int) := of_decide_eq_true (by first | (with_reducible assumption) | assumption)
          have hx9 := bt_at a0 x6_2
          replace p9 := eq_true p9
          replace q9 := eq_true q9
          have p36 : 0 ≤ (x6_2 : Int) := of_decide_eq_true (by first | (with_reducible assumption) | assumption)
          have q36 : x6_2 < (a0.size : Int) := of_decide_eq_true (by first | (with_reducible assumption) | assumption)
          have hx36 := bt_at a0 x6_2
          replace p36 := eq_true p36
          replace q36 := eq_true q36
          go_wp2_with (first | (go_at_call 37; (with_reducible refine (emendref2_value.calls k2 (bt a0 x6_2) a1 t140 _ A37.out).mono ?_); rintro e w' ⟨rfl, ⟨nd, rfl⟩⟩))
          go_ret2
          exact ⟨by first | rfl | (simp [errW_none, errW_some] <;> rfl) | (simp [*, errW_none, errW_some] <;> rfl), by repeat (first | (with_reducible first | exact HB.out | apply below_alloc | apply pw_below_drewN | apply below_drew1) | exact HB.out)⟩
         ·
          rw [if_neg c38] at H
          have c38b0 : decide (t140 < 0) = false := decide_eq_false c38
          clear c38
          have H' := Aside0.mk H
          clear H
          have p9 : 0 ≤ (x6_2 : Int) := of_decide_eq_true (by first | (with_reducible assumption) | assumption)
          have q9 : x6_2 < (a0.size : Int) := of_decide_eq_true (by first | (with_reducible assumption) | assumption)
          have hx9 := bt_at a0 x6_2
          replace p9 := eq_true p9
          replace q9 := eq_true q9
          have p36 : 0 ≤ (x6_2 : Int) := of_decide_eq_true (by first | (with_reducible assumption) | assumption)
          have q36 : x6_2 < (a0.size : Int) := of_decide_eq_true (by first | (with_reducible assumption) | assumption)
          have hx36 := bt_at a0 x6_2
          replace p36 := eq_true p36
          replace q36 := eq_true q36
          go_wp2_with (first | (go_at_call 37; (with_reducible refine (emendref2_value.calls k2 (bt a0 x6_2) a1 t140 _ A37.out).mono ?_); rintro e w' ⟨rfl, ⟨nd, rfl⟩⟩))
          go_roundg k2
          case measure => have := HJ2.out; have := HK2.out; omega
          case rel => exact ⟨(wrap64 (x6_2 + 1)), (by first | rfl | (simp; done) | (simp [*]; done) | (congr 1; unfold wrap64; omega)), H', ⟨by have := HJ2.out; have := HK2.out; omega⟩, ⟨by repeat (first | (with_reducible first | exact HB.out | apply below_alloc | apply pw_below_drewN | apply below_drew1) | exact HB.out)⟩⟩
       ·
        rw [if_neg c8] at H
        exact absurd H (by simp)
      ·
       rw [if_neg c7] at H
       have c7b0 : decide (x6_2 < (a0.size : Int)) = false := decide_eq_false c7
       clear c7
       by_cases c39 : (a0.size : Int) = 0
       ·
        rw [if_pos c39] at H
        have c39b0 : ((a0.size : Int) == 0) = true := beq_iff_eq.mpr c39
        have c39b1 : ((a0.size : Int) != 0) = false := bne_eq_false_iff_eq.mpr c39
        clear c39
        simp only [Option.some.injEq, Prod.mk.injEq] at H
        obtain ⟨rfl, rfl⟩ := H
        go_wp2
        go_ret2
        exact ⟨by first | rfl | (simp [errW_none, errW_some] <;> rfl) | (simp [*, errW_none, errW_some] <;> rfl), by repeat (first | (with_reducible first | exact HB.out | apply below_alloc | apply pw_below_drewN | apply below_drew1) | exact HB.out)⟩
       ·
        rw [if_neg c39] at H
        have c39b0 : ((a0.size : Int) == 0) = false := beq_eq_false_iff_ne.mpr c39
        have c39b1 : ((a0.size : Int) != 0) = true := bne_iff_ne.mpr c39
        have H' := Aside0.mk H
        clear H
        go_wp2
        go_loopg [8, 9] k2 (fun kq v8 v9 w' => ∃ (x8_3 : Int) (x9_3 : Int), v8 = .int .u64 x8_3 ∧ v9 = .int .i64 x9_3 ∧ Aside0 (emendref2_Whole.l1 kq a0 a1 x8_3 x9_3 = some (r1, r2)) ∧ Aside0 (kq ≤ k2) ∧ Aside0 (Below w.heap.size w w'))
        case atStart => exact ⟨(0), (0), (by first | rfl | (simp; done) | (simp [*]; done) | (congr 1; unfold wrap64; omega)), (by first | rfl | (simp; done) | (simp [*]; done) | (congr 1; unfold wrap64; omega)), H', ⟨Nat.le_refl _⟩, ⟨by repeat (first | (with_reducible first | exact HB.out | apply below_alloc | apply pw_below_drewN | apply below_drew1) | exact HB.out)⟩⟩
        case round =>
         clear H'
         try clear c1
         try clear p1
         try clear q1
         try clear hx1
         try clear c2
         try clear p2
         try clear q2
         try clear hx2
         try clear c3
         try clear p3
         try clear q3
         try clear hx3
         try clear c4
         try clear c4b0
         try clear c4b1
         try clear c5
         try clear c5b0
         try clear c5b1
         try clear c6
         try clear p6
         try clear c7
         try clear c7b0
         try clear c8
         try clear c8b0
         try clear p9
         try clear q9
         try clear hx9
         try clear c10
         try clear c10b0
         try clear c10b1
         try clear c11
         try clear c11b0
         try clear c12
         try clear c12b0
         try clear c14
         try clear c14b0
         try clear c15
         try clear c15b0
         try clear p16
         try clear q16
         try clear hx16
         try clear c18
         try clear c18b0
         try clear c20
         try clear c20b0
         try clear p21
         try clear q21
         try clear hx21
         try clear c23
         try clear c23b0
         try clear p24
         try clear q24
         try clear hx24
         try clear c26
         try clear c26b0
         try clear p27
         try clear q27
         try clear hx27
         try clear c29
         try clear c29b0
         try clear p30
         try clear q30
         try clear hx30
         try clear c32
         try clear c32b0
         try clear p33
         try clear q33
         try clear hx33
         try clear c35
         try clear c35b0
         try clear p36
         try clear q36
         try clear hx36
         try clear c38
         try clear c38b0
         try clear c39
         try clear c39b0
         try clear c39b1
         try clear p16
         try clear p2
         try clear p21
         try clear p24
         try clear p27
         try clear p30
         try clear p33
         try clear p36
         try clear p9
         try clear q16
         try clear q21
         try clear q24
         try clear q27
         try clear q30
         try clear q33
         try clear q36
         try clear q9
         obtain ⟨x8_3, x9_3, rfl, rfl, HA, HK3, HB⟩ := hrel
         cases gk with
         | zero => exact absurd HA.out (by simp [emendref2_Whole.l1])
         | succ k3 =>
          have H := HA.out
          clear HA
          simp only [emendref2_Whole.l1] at H
          by_cases c40 : x9_3 < (a0.size : Int)
          ·
           rw [if_pos c40] at H
           have c40b0 : decide (x9_3 < (a0.size : Int)) = true := decide_eq_true c40
           clear c40
           by_cases c41 : 0 ≤ x9_3
           ·
            rw [if_pos c41] at H
            have c41b0 : decide (0 ≤ x9_3) = true := decide_eq_true c41
            clear c41
            by_cases c43 : (bt a0 x9_3) = 95
            ·
             rw [if_pos c43] at H
             have c43b0 : ((bt a0 x9_3) == 95) = true := beq_iff_eq.mpr c43
             have c43b1 : ((bt a0 x9_3) != 95) = false := bne_eq_false_iff_eq.mpr c43
             clear c43
             have H' := Aside0.mk H
             clear H
             have p42 : 0 ≤ (x9_3 : Int) := of_decide_eq_true (by first | (with_reducible assumption) | assumption)
             have q42 : x9_3 < (a0.size : Int) := of_decide_eq_true (by first | (with_reducible assumption) | assumption)
             have hx42 := bt_at a0 x9_3
             replace p42 := eq_true p42
             replace q42 := eq_true q42
             go_wp2
             go_roundg k3
             case measure => have := HJ2.out; have := HK2.out; have := HK3.out; omega
             case rel => exact ⟨(x8_3), (wrap64 (x9_3 + 1)), (by first | rfl | (simp; done) | (simp [*]; done) | (congr 1; unfold wrap64; omega)), (by first | rfl | (simp; done) | (simp [*]; done) | (congr 1; unfold wrap64; omega)), H', ⟨by have := HJ2.out; have := HK2.out; have := HK3.out; omega⟩, ⟨by repeat (first | (with_reducible first | exact HB.out | apply below_alloc | apply pw_below_drewN | apply below_drew1) | exact HB.out)⟩⟩
            ·
             rw [if_neg c43] at H
             have c43b0 : ((bt a0 x9_3) == 95) = false := beq_eq_false_iff_ne.mpr c43
             have c43b1 : ((bt a0 x9_3) != 95) = true := bne_iff_ne.mpr c43
             by_cases c44 : (IntKind.u64.wrap (a1)) = 0
             ·
              rw [if_pos c44] at H
              exact absurd H (by simp)
             ·
              rw [if_neg c44] at H
              have c44b0 : ((IntKind.u64.wrap (a1)) == 0) = false := beq_eq_false_iff_ne.mpr c44
              have c44b1 : ((IntKind.u64.wrap (a1)) != 0) = true := bne_iff_ne.mpr c44
              by_cases c45 : x8_3 > (IntKind.u64.wrap ((9223372036854775807 : Int) / (IntKind.u64.wrap (a1))))
              ·
               rw [if_pos c45] at H
               have c45b0 : decide ((IntKind.u64.wrap ((9223372036854775807 : Int) / (IntKind.u64.wrap (a1)))) < x8_3) = true := decide_eq_true c45
               try have c45b0d := c45b0
               try rw [← Int.tdiv_eq_ediv_of_nonneg (by decide)] at c45b0d
               clear c45
               simp only [Option.some.injEq, Prod.mk.injEq] at H
               obtain ⟨rfl, rfl⟩ := H
               have p42 : 0 ≤ (x9_3 : Int) := of_decide_eq_true (by first | (with_reducible assumption) | assumption)
               have q42 : x9_3 < (a0.size : Int) := of_decide_eq_true (by first | (with_reducible assumption) | assumption)
               have hx42 := bt_at a0 x9_3
               replace p42 := eq_true p42
               replace q42 := eq_true q42
               go_wp2
               go_ret2
               exact ⟨by first | rfl | (simp [errW_none, errW_some] <;> rfl) | (simp [*, errW_none, errW_some] <;> rfl), by repeat (first | (with_reducible first | exact HB.out | apply below_alloc | apply pw_below_drewN | apply below_drew1) | exact HB.out)⟩
              ·
               rw [if_neg c45] at H
               have c45b0 : decide ((IntKind.u64.wrap ((9223372036854775807 : Int) / (IntKind.u64.wrap (a1)))) < x8_3) = false := decide_eq_false c45
               try have c45b0d := c45b0
               try rw [← Int.tdiv_eq_ediv_of_nonneg (by decide)] at c45b0d
               clear c45
               replace H := Option.bind_eq_some_iff.mp H
               obtain ⟨t144, A470, H⟩ := H
               replace H : (if (IntKind.u64.wrap ((IntKind.u64.wrap (x8_3 * (IntKind.u64.wrap (a1)))) + (IntKind.u64.wrap (t144)))) > 9223372036854775807 then (some ((⟨#[]⟩ : ByteArray), 5)) else (emendref2_Whole.l1 k3 a0 a1 (IntKind.u64.wrap ((IntKind.u64.wrap (x8_3 * (IntKind.u64.wrap (a1)))) + (IntKind.u64.wrap (t144)))) (wrap64 (x9_3 + 1)))) = some (r1, r2) := H
               have A47 := Aside0.mk A470
               clear A470
               by_cases c48 : (IntKind.u64.wrap ((IntKind.u64.wrap (x8_3 * (IntKind.u64.wrap (a1)))) + (IntKind.u64.wrap (t144)))) > 9223372036854775807
               ·
                rw [if_pos c48] at H
                have c48b0 : decide (9223372036854775807 < (IntKind.u64.wrap ((IntKind.u64.wrap (x8_3 * (IntKind.u64.wrap (a1)))) + (IntKind.u64.wrap (t144))))) = true := decide_eq_true c48
                clear c48
                simp only [Option.some.injEq, Prod.mk.injEq] at H
                obtain ⟨rfl, rfl⟩ := H
                have p42 : 0 ≤ (x9_3 : Int) := of_decide_eq_true (by first | (with_reducible assumption) | assumption)
                have q42 : x9_3 < (a0.size : Int) := of_decide_eq_true (by first | (with_reducible assumption) | assumption)
                have hx42 := bt_at a0 x9_3
                replace p42 := eq_true p42
                replace q42 := eq_true q42
                have p46 : 0 ≤ (x9_3 : Int) := of_decide_eq_true (by first | (with_reducible assumption) | assumption)
                have q46 : x9_3 < (a0.size : Int) := of_decide_eq_true (by first | (with_reducible assumption) | assumption)
                have hx46 := bt_at a0 x9_3
                replace p46 := eq_true p46
                replace q46 := eq_true q46
                go_wp2_with (first | ((with_reducible refine gate_callee (f := 37) rfl ?_); refine goesL_ (some 95) rfl rfl Tryz.func37 (by kernel_rfl) rfl #[.int .u8 (bt a0 x9_3), .int .i64 a1] rfl (by (try simp only [List.map_toArray, List.map_cons, List.map_nil]); first | done | rfl | (simp only [List.length_drop, List.length_take]; rfl)) ?_; (with_reducible refine (emendref2_value.calls k3 (bt a0 x9_3) a1 t144 _ A47.out).mono ?_); rintro e w' ⟨rfl, ⟨nd, rfl⟩⟩; refine ⟨_, rfl, ?_⟩))
                go_ret2
                exact ⟨by first | rfl | (simp [errW_none, errW_some] <;> rfl) | (simp [*, errW_none, errW_some] <;> rfl), by repeat (first | (with_reducible first | exact HB.out | apply below_alloc | apply pw_below_drewN | apply below_drew1) | exact HB.out)⟩
               ·
                rw [if_neg c48] at H
                have c48b0 : decide (9223372036854775807 < (IntKind.u64.wrap ((IntKind.u64.wrap (x8_3 * (IntKind.u64.wrap (a1)))) + (IntKind.u64.wrap (t144))))) = false := decide_eq_false c48
                clear c48
                have H' := Aside0.mk H
                clear H
                have p42 : 0 ≤ (x9_3 : Int) := of_decide_eq_true (by first | (with_reducible assumption) | assumption)
                have q42 : x9_3 < (a0.size : Int) := of_decide_eq_true (by first | (with_reducible assumption) | assumption)
                have hx42 := bt_at a0 x9_3
                replace p42 := eq_true p42
                replace q42 := eq_true q42
                have p46 : 0 ≤ (x9_3 : Int) := of_decide_eq_true (by first | (with_reducible assumption) | assumption)
                have q46 : x9_3 < (a0.size : Int) := of_decide_eq_true (by first | (with_reducible assumption) | assumption)
                have hx46 := bt_at a0 x9_3
                replace p46 := eq_true p46
                replace q46 := eq_true q46
                go_wp2_with (first | ((with_reducible refine gate_callee (f := 37) rfl ?_); refine goesL_ (some 95) rfl rfl Tryz.func37 (by kernel_rfl) rfl #[.int .u8 (bt a0 x9_3), .int .i64 a1] rfl (by (try simp only [List.map_toArray, List.map_cons, List.map_nil]); first | done | rfl | (simp only [List.length_drop, List.length_take]; rfl)) ?_; (with_reducible refine (emendref2_value.calls k3 (bt a0 x9_3) a1 t144 _ A47.out).mono ?_); rintro e w' ⟨rfl, ⟨nd, rfl⟩⟩; refine ⟨_, rfl, ?_⟩))
                go_roundg k3
                case measure => have := HJ2.out; have := HK2.out; have := HK3.out; omega
                case rel => exact ⟨(IntKind.u64.wrap ((IntKind.u64.wrap (x8_3 * (IntKind.u64.wrap (a1)))) + (IntKind.u64.wrap (t144)))), (wrap64 (x9_3 + 1)), (by first | rfl | (simp; done) | (simp [*]; done) | (congr 1; unfold wrap64; omega)), (by first | rfl | (simp; done) | (simp [*]; done) | (congr 1; unfold wrap64; omega)), H', ⟨by have := HJ2.out; have := HK2.out; have := HK3.out; omega⟩, ⟨by repeat (first | (with_reducible first | exact HB.out | apply below_alloc | apply pw_below_drewN | apply below_drew1) | exact HB.out)⟩⟩
           ·
            rw [if_neg c41] at H
            exact absurd H (by simp)
          ·
           rw [if_neg c40] at H
           have c40b0 : decide (x9_3 < (a0.size : Int)) = false := decide_eq_false c40
           clear c40
           replace H := Option.bind_eq_some_iff.mp H
           obtain ⟨t141, A490, H⟩ := H
           replace H : ((emendref2_Normal.f k3 t141).bind fun bt142 => (some (bt142.1, bt142.2))) = some (r1, r2) := H
           have A49 := Aside0.mk A490
           clear A490
           replace H := Option.bind_eq_some_iff.mp H
           obtain ⟨⟨t142, t143⟩, A500, H⟩ := H
           replace H : (some (t142, t143)) = some (r1, r2) := H
           have A50 := Aside0.mk A500
           clear A500
           simp only [Option.some.injEq, Prod.mk.injEq] at H
           obtain ⟨rfl, rfl⟩ := H
           go_wp2_with (first | ((with_reducible refine gate_callee (f := 38) rfl ?_); refine goesL_ (some 102) rfl rfl Tryz.func38 (by kernel_rfl) rfl #[.int .i64 (wrap64 (x8_3))] rfl (by (try simp only [List.map_toArray, List.map_cons, List.map_nil]); first | done | rfl | (simp only [List.length_drop, List.length_take]; rfl)) ?_; (with_reducible refine (emendref2_Digits.calls k3 (wrap64 (x8_3)) t141 _ A49.out).mono ?_); rintro e w51 ⟨rfl, hb⟩; refine ⟨_, rfl, ?_⟩; have n0_ := Aside0.mk (below_step (by repeat (first | (with_reducible first | exact HB.out | apply below_alloc | apply pw_below_drewN | apply below_drew1) | exact HB.out)) hb); clear HB; have HB := n0_; clear n0_; (try clear hb); (try clear hb2); (try clear hk); (try clear hi)) | ((with_reducible refine gate_callee (f := 11) rfl ?_); refine goesL_ (some 103) rfl rfl Tryz.func11 (by kernel_rfl) rfl #[.string t141] rfl (by (try simp only [List.map_toArray, List.map_cons, List.map_nil]); first | done | rfl | (simp only [List.length_drop, List.length_take]; rfl)) ?_; (with_reducible refine (emendref2_Normal.calls k3 t141 t142 t143 _ A50.out).mono ?_); rintro e w52 ⟨rfl, hb⟩; refine ⟨_, rfl, ?_⟩; have n0_ := Aside0.mk (below_step (by repeat (first | (with_reducible first | exact HB.out | apply below_alloc | apply pw_below_drewN | apply below_drew1) | exact HB.out)) hb); clear HB; have HB := n0_; clear n0_; (try clear hb); (try clear hb2); (try clear hk); (try clear hi)))
           go_ret2
           exact ⟨by first | rfl | (simp [errW_none, errW_some] <;> rfl) | (simp [*, errW_none, errW_some] <;> rfl), by repeat (first | (with_reducible first | exact HB.out | apply below_alloc | apply pw_below_drewN | apply below_drew1) | exact HB.out)⟩

end Go.Proofs.YtjaongknagmfiaaGreatDoor.PW
