-- PRINTED by print.py (a twelfth state) out of the translation. Not trusted: Lean checks it.
import Derived.Test.YtjaongknagmfiaaGreatDoorPPx0
import Derived.Test.YtjaongknagmfiaaGreatDoorPPx2
import Derived.Test.YtjaongknagmfiaaGreatDoorPPx5
namespace Go.Proofs.YtjaongknagmfiaaGreatDoor.PP
open Go.RowKit Go.Proofs.YtjaongknagmfiaaGreatDoorW.PrintWords Go.Proofs.YtjaongknagmfiaaGreatDoorW.PrintLast Go.Proofs.YtjaongknagmfiaaGreatDoorW.PrintMore
attribute [local go_sem] max2_int min2_int max_two min_two max_three min_three max_four min_four   -- for this text's walks alone
set_option linter.unusedVariables false
set_option linter.unusedSimpArgs false

/-! ### emendref2_Plain: function 14 -/
mutual
def emendref2_Plain.j0 : Nat → Int → ByteArray → Bool → ByteArray → Int → Option (ByteArray × Int)
  | 0, _, _, _, _, _ => none
  | k + 1, x8, x9, x128000, x128001, x128002 => if x8 = 0 then (some ((⟨#[48]⟩ : ByteArray), 0)) else (if x128002 ≥ 0 then (if x128002 > (wrap64 ((wrap64 (1000 - x8)) - (x9.size : Int))) then (some ((⟨#[]⟩ : ByteArray), 5)) else (if x9.size + x128001.size ≤ 9223372036854775807 then ((emendref2_noughts.f k x128002).bind fun t128 => (if (x9 ++ x128001).size + t128.size ≤ 9223372036854775807 then (some ((x9 ++ x128001) ++ t128, 0)) else (none))) else (none))) else (if (wrap64 (-x128002)) ≥ x8 then (emendref2_Plain.j1 k x8 x9 (wrap64 (-x128002)) (wrap64 ((wrap64 ((x9.size : Int) + 2)) + (wrap64 (-x128002)))) x128000 x128001 x128002) else (emendref2_Plain.j1 k x8 x9 (wrap64 (-x128002)) (wrap64 ((wrap64 ((x9.size : Int) + x8)) + 1)) x128000 x128001 x128002)))
def emendref2_Plain.j1 : Nat → Int → ByteArray → Int → Int → Bool → ByteArray → Int → Option (ByteArray × Int)
  | 0, _, _, _, _, _, _, _ => none
  | k + 1, x8, x9, x10, x11, x128000, x128001, x128002 => if x11 > 1000 then (some ((⟨#[]⟩ : ByteArray), 5)) else (if x10 < x8 then (if 0 ≤ (wrap64 (x8 - x10)) then (if (wrap64 (x8 - x10)) ≤ (x128001.size : Int) then (if x9.size + (x128001.extract 0 ((wrap64 (x8 - x10)) : Int).toNat).size ≤ 9223372036854775807 then (if (x9 ++ (x128001.extract 0 ((wrap64 (x8 - x10)) : Int).toNat)).size + 1 ≤ 9223372036854775807 then (if ((x9 ++ (x128001.extract 0 ((wrap64 (x8 - x10)) : Int).toNat)) ++ (⟨#[46]⟩ : ByteArray)).size + (x128001.extract ((wrap64 (x8 - x10)) : Int).toNat x128001.size).size ≤ 9223372036854775807 then (some (((x9 ++ (x128001.extract 0 ((wrap64 (x8 - x10)) : Int).toNat)) ++ (⟨#[46]⟩ : ByteArray)) ++ (x128001.extract ((wrap64 (x8 - x10)) : Int).toNat x128001.size), 0)) else (none)) else (none)) else (none)) else (none)) else (none)) else (if x9.size + 2 ≤ 9223372036854775807 then ((emendref2_noughts.f k (wrap64 (x10 - x8))).bind fun t129 => (if (x9 ++ (⟨#[48, 46]⟩ : ByteArray)).size + t129.size ≤ 9223372036854775807 then (if ((x9 ++ (⟨#[48, 46]⟩ : ByteArray)) ++ t129).size + x128001.size ≤ 9223372036854775807 then (some (((x9 ++ (⟨#[48, 46]⟩ : ByteArray)) ++ t129) ++ x128001, 0)) else (none)) else (none))) else (none)))
end
def emendref2_Plain.f (k : Nat) (a0 : ByteArray) : Option (ByteArray × Int) := (emendref2_Normal.f k a0).bind fun bt121 => (if bt121.2 = 0 then ((emendref2_Split.f k a0).bind fun bt123 => (if bt123.1 = true then (emendref2_Plain.j0 k (bt123.2.1.size : Int) (⟨#[45]⟩ : ByteArray) bt123.1 bt123.2.1 bt123.2.2.1) else (emendref2_Plain.j0 k (bt123.2.1.size : Int) (⟨#[]⟩ : ByteArray) bt123.1 bt123.2.1 bt123.2.2.1))) else (some ((⟨#[]⟩ : ByteArray), bt121.2)))
theorem emendref2_Plain.mono_l : ∀ k, (∀ y0 y1 y2 y3 y4, LeO (emendref2_Plain.j0 k y0 y1 y2 y3 y4) (emendref2_Plain.j0 (k + 1) y0 y1 y2 y3 y4)) ∧ (∀ y0 y1 y2 y3 y4 y5 y6, LeO (emendref2_Plain.j1 k y0 y1 y2 y3 y4 y5 y6) (emendref2_Plain.j1 (k + 1) y0 y1 y2 y3 y4 y5 y6))
  | 0 => ⟨fun _ _ _ _ _ r h => by simp [emendref2_Plain.j0] at h, fun _ _ _ _ _ _ _ r h => by simp [emendref2_Plain.j1] at h⟩
  | k + 1 => by
    obtain ⟨ih0, ih1⟩ := emendref2_Plain.mono_l k
    refine ⟨?_, ?_⟩
    · intro y0 y1 y2 y3 y4
      unfold emendref2_Plain.j0
      repeat' first
      | (with_reducible exact ih0 _ _ _ _ _)
      | (with_reducible exact ih1 _ _ _ _ _ _ _)
      | (with_reducible exact emendref2_Normal.mono _ _)
      | (with_reducible exact emendref2_Split.mono _ _)
      | (with_reducible exact emendref2_noughts.mono _ _)
      | (with_reducible exact LeO.refl _)
      | (with_reducible exact LeO.none _)
      | (with_reducible refine LeO.ite ?_ ?_)
      | (with_reducible refine LeO.bind ?_ (fun _ => ?_))
      | exact ih0 _ _ _ _ _
      | exact ih1 _ _ _ _ _ _ _
      | exact emendref2_Normal.mono _ _
      | exact emendref2_Split.mono _ _
      | exact emendref2_noughts.mono _ _
      | exact LeO.none _
      | refine LeO.ite ?_ ?_
      | refine LeO.bind ?_ (fun _ => ?_)
    · intro y0 y1 y2 y3 y4 y5 y6
      unfold emendref2_Plain.j1
      repeat' first
      | (with_reducible exact ih0 _ _ _ _ _)
      | (with_reducible exact ih1 _ _ _ _ _ _ _)
      | (with_reducible exact emendref2_Normal.mono _ _)
      | (with_reducible exact emendref2_Split.mono _ _)
      | (with_reducible exact emendref2_noughts.mono _ _)
      | (with_reducible exact LeO.refl _)
      | (with_reducible exact LeO.none _)
      | (with_reducible refine LeO.ite ?_ ?_)
      | (with_reducible refine LeO.bind ?_ (fun _ => ?_))
      | exact ih0 _ _ _ _ _
      | exact ih1 _ _ _ _ _ _ _
      | exact emendref2_Normal.mono _ _
      | exact emendref2_Split.mono _ _
      | exact emendref2_noughts.mono _ _
      | exact LeO.none _
      | refine LeO.ite ?_ ?_
      | refine LeO.bind ?_ (fun _ => ?_)
theorem emendref2_Plain.mono : ∀ a0 k, LeO (emendref2_Plain.f k a0) (emendref2_Plain.f (k + 1) a0) := by
  intro a0 k
  obtain ⟨ih0, ih1⟩ := emendref2_Plain.mono_l k
  unfold emendref2_Plain.f
  repeat' first
      | (with_reducible exact ih0 _ _ _ _ _)
      | (with_reducible exact ih1 _ _ _ _ _ _ _)
      | (with_reducible exact emendref2_Normal.mono _ _)
      | (with_reducible exact emendref2_Split.mono _ _)
      | (with_reducible exact emendref2_noughts.mono _ _)
      | (with_reducible exact LeO.refl _)
      | (with_reducible exact LeO.none _)
      | (with_reducible refine LeO.ite ?_ ?_)
      | (with_reducible refine LeO.bind ?_ (fun _ => ?_))
      | exact ih0 _ _ _ _ _
      | exact ih1 _ _ _ _ _ _ _
      | exact emendref2_Normal.mono _ _
      | exact emendref2_Split.mono _ _
      | exact emendref2_noughts.mono _ _
      | exact LeO.none _
      | refine LeO.ite ?_ ?_
      | refine LeO.bind ?_ (fun _ => ?_)
def emendref2_Plain.T14 : Bool × List (List Nat × List Nat) := (true, [([], []), ([], []), ([1], [1]), ([0, 2], [0, 2]), ([], []), ([4], [4]), ([5], [5]), ([3, 6], [3, 6]), ([7, 6, 0, 1, 2, 3, 4, 5, 6, 7], [7]), ([8, 0, 1, 2, 3, 4, 5, 6, 7, 8], [])])
def emendref2_Plain.B14 : List Nat := [0, 0, 2, 7, 0, 16, 48, 127, 255, 511]
theorem emendref2_Plain.tab14 : rtab .any (opsOf Tryz.f14 14) = emendref2_Plain.T14 := by kernel_rfl
theorem emendref2_Plain.bits14 : waitsOk emendref2_Plain.T14.2 emendref2_Plain.B14 = true := by kernel_rfl
def emendref2_Plain.T22 : Bool × List (List Nat × List Nat) := (true, [([], []), ([], []), ([1], [1]), ([], []), ([], []), ([3, 4], [3, 4]), ([2, 5], [2, 5]), ([0, 6], [0, 6]), ([7], [7]), ([], []), ([9], [9]), ([], []), ([], []), ([11, 12], [11, 12]), ([10, 13], [10, 13]), ([8, 14], [8, 14]), ([15, 0, 1, 2, 3, 4, 5, 6, 7, 8, 9, 10, 11, 12, 13, 14, 15], [15]), ([16, 0, 1, 2, 3, 4, 5, 6, 7, 8, 9, 10, 11, 12, 13, 14, 15, 16], [])])
def emendref2_Plain.B22 : List Nat := [0, 0, 2, 0, 0, 24, 62, 127, 255, 0, 512, 0, 0, 6144, 15872, 32767, 65535, 131071]
theorem emendref2_Plain.tab22 : rtab .any (opsOf Tryz.f14 22) = emendref2_Plain.T22 := by kernel_rfl
theorem emendref2_Plain.bits22 : waitsOk emendref2_Plain.T22.2 emendref2_Plain.B22 = true := by kernel_rfl
def emendref2_Plain.T23 : Bool × List (List Nat × List Nat) := (true, [([], []), ([0], [0]), ([], []), ([], []), ([2, 3], [2, 3]), ([4], [4]), ([1, 5], [1, 5]), ([], []), ([7], [7]), ([6, 8], [6, 8]), ([9, 5, 0, 1, 2, 3, 4, 5, 6, 7, 8, 9], [9]), ([10, 0, 1, 2, 3, 4, 5, 6, 7, 8, 9, 10], [])])
def emendref2_Plain.B23 : List Nat := [0, 1, 0, 0, 12, 28, 63, 0, 128, 511, 1023, 2047]
theorem emendref2_Plain.tab23 : rtab .any (opsOf Tryz.f14 23) = emendref2_Plain.T23 := by kernel_rfl
theorem emendref2_Plain.bits23 : waitsOk emendref2_Plain.T23.2 emendref2_Plain.B23 = true := by kernel_rfl
set_option maxHeartbeats 8000000 in
set_option maxRecDepth 100000 in
theorem emendref2_Plain.calls (k : Nat) (a0 : ByteArray) (r1 : ByteArray) (r2 : Int) (w : World) (h : emendref2_Plain.f k a0 = some (r1, r2)) :
    Calls Tryz.prog 14 #[.string a0] w fun e w' => e = .returned (.tuple #[.string r1, .int .i64 r2]) ∧ Below w.heap.size w w' := by
  have hu28 := Tryz.underlying28
  have HB := Aside0.mk (Below.refl w.heap.size w)
  have H : ((emendref2_Normal.f k a0).bind fun bt121 => (if bt121.2 = 0 then ((emendref2_Split.f k a0).bind fun bt123 => (if bt123.1 = true then (emendref2_Plain.j0 k (bt123.2.1.size : Int) (⟨#[45]⟩ : ByteArray) bt123.1 bt123.2.1 bt123.2.2.1) else (emendref2_Plain.j0 k (bt123.2.1.size : Int) (⟨#[]⟩ : ByteArray) bt123.1 bt123.2.1 bt123.2.2.1))) else (some ((⟨#[]⟩ : ByteArray), bt121.2)))) = some (r1, r2) := h
  clear h
  replace H := Option.bind_eq_some_iff.mp H
  obtain ⟨⟨t121, t122⟩, A20, H⟩ := H
  replace H : (if t122 = 0 then ((emendref2_Split.f k a0).bind fun bt123 => (if bt123.1 = true then (emendref2_Plain.j0 k (bt123.2.1.size : Int) (⟨#[45]⟩ : ByteArray) bt123.1 bt123.2.1 bt123.2.2.1) else (emendref2_Plain.j0 k (bt123.2.1.size : Int) (⟨#[]⟩ : ByteArray) bt123.1 bt123.2.1 bt123.2.2.1))) else (some ((⟨#[]⟩ : ByteArray), t122))) = some (r1, r2) := H
  have A2 := Aside0.mk A20
  clear A20
  by_cases c3 : t122 = 0
  · rw [if_pos c3] at H
    have c3b0 : (t122 == 0) = true := beq_iff_eq.mpr c3
    have c3b1 : (t122 != 0) = false := bne_eq_false_iff_eq.mpr c3
    clear c3
    replace H := Option.bind_eq_some_iff.mp H
    obtain ⟨⟨t123, t124, t125, t126⟩, A40, H⟩ := H
    replace H : (if t123 = true then (emendref2_Plain.j0 k (t124.size : Int) (⟨#[45]⟩ : ByteArray) t123 t124 t125) else (emendref2_Plain.j0 k (t124.size : Int) (⟨#[]⟩ : ByteArray) t123 t124 t125)) = some (r1, r2) := H
    have A4 := Aside0.mk A40
    clear A40
    have HC5 := Aside0.mk H
    clear H
    go_enter Tryz.func14, Tryz.ntmps14
    go_upto_if 29 with (first | ((with_reducible refine gate_callee (f := 11) rfl ?_); refine goesL_ (some 14) rfl rfl Tryz.func11 (by kernel_rfl) rfl #[.string a0] rfl (by (try simp only [List.map_toArray, List.map_cons, List.map_nil]); first | done | rfl | (simp only [List.length_drop, List.length_take]; rfl)) ?_; (with_reducible refine (emendref2_Normal.calls k a0 t121 t122 _ A2.out).mono ?_); rintro e w6 ⟨rfl, hb⟩; refine ⟨_, rfl, ?_⟩; have n0_ := Aside0.mk (below_step (by repeat (first | (with_reducible first | exact HB.out | apply below_alloc | apply pw_below_drewN | apply below_drew1) | exact HB.out)) hb); clear HB; have HB := n0_; clear n0_; (try clear hb); (try clear hb2); (try clear hk); (try clear hi)) | ((with_reducible refine gate_callee (f := 9) rfl ?_); refine goesL_ (some 22) rfl rfl Tryz.func9 (by kernel_rfl) rfl #[.string a0] rfl (by (try simp only [List.map_toArray, List.map_cons, List.map_nil]); first | done | rfl | (simp only [List.length_drop, List.length_take]; rfl)) ?_; (with_reducible refine (emendref2_Split.calls k a0 t123 t124 t125 t126 _ A4.out).mono ?_); rintro e w7 ⟨rfl, hb⟩; refine ⟨_, rfl, ?_⟩; have n0_ := Aside0.mk (below_step (by repeat (first | (with_reducible first | exact HB.out | apply below_alloc | apply pw_below_drewN | apply below_drew1) | exact HB.out)) hb); clear HB; have HB := n0_; clear n0_; (try clear hb); (try clear hb2); (try clear hk); (try clear hi)) | ((with_reducible refine gate_dst (N := 6) rfl ?_); refine box_event ?hg (N := 6) ?hd (cs := #[.bool false, .string (⟨#[]⟩ : ByteArray), .int .i64 0]) (t := 28) ?hr ?_; (case hd => rfl); (case hg => rfl); (case hr => first | (go_simp; done) | (go_simp; rfl)); intro gb127 hg w8 hbox hb; have n0_ := Aside0.mk (below_step (by repeat (first | (with_reducible first | exact HB.out | apply below_alloc | apply pw_below_drewN | apply below_drew1) | exact HB.out)) hb); have n1_ := Aside0.mk (hbox); have n2_ := Aside0.mk ((by rw [hg]; exact (below_size (by repeat (first | (with_reducible first | exact HB.out | apply below_alloc | apply pw_below_drewN | apply below_drew1) | exact HB.out))) : w.heap.size ≤ gb127)); have n3_ := Aside0.mk ((by rw [hg]; exact (below_size (by repeat (first | (with_reducible first | exact HB.out | apply below_alloc | apply pw_below_drewN | apply below_drew1) | exact HB.out))) : w.heap.size ≤ gb127)); clear HB; have HB := n0_; have BK127 := n1_; have GW127 := n2_; have GE127 := n3_; clear n0_ n1_ n2_ n3_; clear hb hbox hg; have hcz9_0 : w8.cell? ⟨gb127, 0, none⟩ = some (.bool false) := (blk_cell BK127.out 0).trans rfl; have hcz9_1 : w8.cell? ⟨gb127, 1, none⟩ = some (.string (⟨#[]⟩ : ByteArray)) := (blk_cell BK127.out 1).trans rfl; have hcz9_2 : w8.cell? ⟨gb127, 2, none⟩ = some (.int .i64 0) := (blk_cell BK127.out 2).trans rfl; have hfz9_0 := blk_frozen BK127.out 0; have hfz9_1 := blk_frozen BK127.out 1; have hfz9_2 := blk_frozen BK127.out 2))
    (try simp only [Act.put, List.setIfInBounds_toArray, List.set_cons_zero, List.set_cons_succ])
    go_cut [9] (fun v9 wc => ∃ (kq : Nat) (x9_4 : ByteArray), v9 = .string x9_4 ∧ Aside0 (emendref2_Plain.j0 kq (t124.size : Int) x9_4 t123 t124 t125 = some (r1, r2)) ∧ Aside0 (kq ≤ k) ∧ Aside0 (wc.heap[gb127]? = some (.cells #[.bool t123, .string t124, .int .i64 t125] 28 (0, 0))) ∧ Aside0 (Below w.heap.size w wc))
    case first =>
      have H := HC5.out
      clear HC5
      by_cases c10 : t123 = true
      · subst c10
        have H1 : (emendref2_Plain.j0 k (t124.size : Int) (⟨#[45]⟩ : ByteArray) true t124 t125) = some (r1, r2) := by rw [if_pos rfl] at H; exact H
        clear H
        have H := H1
        clear H1
        have H' := Aside0.mk H
        clear H
        go_wp2
        go_meet
        case rel => exact ⟨_, ((⟨#[45]⟩ : ByteArray)), (by first | rfl | (simp; done) | (simp [*]; done) | (congr 1; unfold wrap64; omega)), H', ⟨by first | omega | exact Nat.le_refl _⟩, ⟨by (with_reducible repeat (first | refine blk_drewN ?_ _ | refine blk_drew ?_ | refine blk_alloc ?_ _)); refine blk_put (cs := #[.bool true, .string t124, .int .i64 0]) ?_ 2 _ rfl; (with_reducible repeat (first | refine blk_drewN ?_ _ | refine blk_drew ?_ | refine blk_alloc ?_ _)); refine blk_put (cs := #[.bool true, .string (⟨#[]⟩ : ByteArray), .int .i64 0]) ?_ 1 _ rfl; (with_reducible repeat (first | refine blk_drewN ?_ _ | refine blk_drew ?_ | refine blk_alloc ?_ _)); refine blk_put (cs := #[.bool false, .string (⟨#[]⟩ : ByteArray), .int .i64 0]) ?_ 0 _ rfl; (with_reducible repeat (first | refine blk_drewN ?_ _ | refine blk_drew ?_ | refine blk_alloc ?_ _)); exact BK127.out⟩, ⟨by repeat (first | (with_reducible first | exact HB.out | apply below_alloc | apply pw_below_drewN | apply below_drew1 | refine below_set ?_ GE127.out) | exact HB.out)⟩⟩
      · replace c10 := Bool.eq_false_iff.mpr c10
        subst c10
        have H1 : (emendref2_Plain.j0 k (t124.size : Int) (⟨#[]⟩ : ByteArray) false t124 t125) = some (r1, r2) := by rw [if_neg (show ¬ (false = true) by decide)] at H; exact H
        clear H
        have H := H1
        clear H1
        have H' := Aside0.mk H
        clear H
        go_wp2
        go_meet
        case rel => exact ⟨_, ((⟨#[]⟩ : ByteArray)), (by first | rfl | (simp; done) | (simp [*]; done) | (congr 1; unfold wrap64; omega)), H', ⟨by first | omega | exact Nat.le_refl _⟩, ⟨by (with_reducible repeat (first | refine blk_drewN ?_ _ | refine blk_drew ?_ | refine blk_alloc ?_ _)); refine blk_put (cs := #[.bool false, .string t124, .int .i64 0]) ?_ 2 _ rfl; (with_reducible repeat (first | refine blk_drewN ?_ _ | refine blk_drew ?_ | refine blk_alloc ?_ _)); refine blk_put (cs := #[.bool false, .string (⟨#[]⟩ : ByteArray), .int .i64 0]) ?_ 1 _ rfl; (with_reducible repeat (first | refine blk_drewN ?_ _ | refine blk_drew ?_ | refine blk_alloc ?_ _)); refine blk_put (cs := #[.bool false, .string (⟨#[]⟩ : ByteArray), .int .i64 0]) ?_ 0 _ rfl; (with_reducible repeat (first | refine blk_drewN ?_ _ | refine blk_drew ?_ | refine blk_alloc ?_ _)); exact BK127.out⟩, ⟨by repeat (first | (with_reducible first | exact HB.out | apply below_alloc | apply pw_below_drewN | apply below_drew1 | refine below_set ?_ GE127.out) | exact HB.out)⟩⟩
    case rest =>
      clear HC5
      try clear c1
      try clear p2
      try clear c3
      try clear c3b0
      try clear c3b1
      try clear c9
      try clear c10
      try clear hcz9_0
      try clear hcz9_1
      try clear hcz9_2
      try clear hfz9_0
      try clear hfz9_1
      try clear hfz9_2
      obtain ⟨kq, x9_4, rfl, HA, HJ4, BK127, HB⟩ := hcut
      cases kq with
      | zero => exact absurd HA.out (by simp [emendref2_Plain.j0])
      | succ kj4 =>
        have H := HA.out
        clear HA
        simp only [emendref2_Plain.j0] at H
        by_cases c11 : (t124.size : Int) = 0
        · rw [if_pos c11] at H
          have c11b0 : ((t124.size : Int) == 0) = true := beq_iff_eq.mpr c11
          have c11b1 : ((t124.size : Int) != 0) = false := bne_eq_false_iff_eq.mpr c11
          clear c11
          simp only [Option.some.injEq, Prod.mk.injEq] at H
          obtain ⟨rfl, rfl⟩ := H
          go_wp2
          go_ret2
          exact ⟨by first | rfl | (simp [errW_none, errW_some] <;> rfl) | (simp [*, errW_none, errW_some] <;> rfl), by repeat (first | (with_reducible first | exact HB.out | apply below_alloc | apply pw_below_drewN | apply below_drew1 | refine below_set ?_ GE127.out) | exact HB.out)⟩
        · rw [if_neg c11] at H
          have c11b0 : ((t124.size : Int) == 0) = false := beq_eq_false_iff_ne.mpr c11
          have c11b1 : ((t124.size : Int) != 0) = true := bne_iff_ne.mpr c11
          by_cases c12 : t125 ≥ 0
          · rw [if_pos c12] at H
            have c12b0 : decide (0 ≤ t125) = true := decide_eq_true c12
            clear c12
            by_cases c13 : t125 > (wrap64 ((wrap64 (1000 - (t124.size : Int))) - (x9_4.size : Int)))
            · rw [if_pos c13] at H
              have c13b0 : decide ((wrap64 ((wrap64 (1000 - (t124.size : Int))) - (x9_4.size : Int))) < t125) = true := decide_eq_true c13
              clear c13
              simp only [Option.some.injEq, Prod.mk.injEq] at H
              obtain ⟨rfl, rfl⟩ := H
              have hcz14_0 : wc.cell? ⟨gb127, 0, none⟩ = some (.bool t123) := (blk_cell BK127.out 0).trans rfl
              have hcz14_1 : wc.cell? ⟨gb127, 1, none⟩ = some (.string t124) := (blk_cell BK127.out 1).trans rfl
              have hcz14_2 : wc.cell? ⟨gb127, 2, none⟩ = some (.int .i64 t125) := (blk_cell BK127.out 2).trans rfl
              have hfz14_0 := blk_frozen BK127.out 0
              have hfz14_1 := blk_frozen BK127.out 1
              have hfz14_2 := blk_frozen BK127.out 2
              try have c13b0u := c13b0
              try simp (disch := first | omega | (simp only [decide_eq_true_eq] at *; omega)) only [wrap64_drop, ByteArray.size_append, ext_head, ext_tail] at c13b0u
              go_wp2
              go_ret2
              exact ⟨by first | rfl | (simp [errW_none, errW_some] <;> rfl) | (simp [*, errW_none, errW_some] <;> rfl), by repeat (first | (with_reducible first | exact HB.out | apply below_alloc | apply pw_below_drewN | apply below_drew1 | refine below_set ?_ GE127.out) | exact HB.out)⟩
            · rw [if_neg c13] at H
              have c13b0 : decide ((wrap64 ((wrap64 (1000 - (t124.size : Int))) - (x9_4.size : Int))) < t125) = false := decide_eq_false c13
              clear c13
              by_cases c15 : x9_4.size + t124.size ≤ 9223372036854775807
              · rw [if_pos c15] at H
                have c15b0 := eq_true c15
                have c15b1 : decide (x9_4.size + t124.size ≤ 9223372036854775807) = true := decide_eq_true c15
                try have c15b2 : (9223372036854775807 < x9_4.size + t124.size) = False := eq_false (Nat.not_lt.2 c15)
                replace H := Option.bind_eq_some_iff.mp H
                obtain ⟨t128, A160, H⟩ := H
                replace H : (if (x9_4 ++ t124).size + t128.size ≤ 9223372036854775807 then (some ((x9_4 ++ t124) ++ t128, 0)) else (none)) = some (r1, r2) := H
                have A16 := Aside0.mk A160
                clear A160
                by_cases c17 : (x9_4 ++ t124).size + t128.size ≤ 9223372036854775807
                · rw [if_pos c17] at H
                  have c17b0 := eq_true c17
                  have c17b1 : decide ((x9_4 ++ t124).size + t128.size ≤ 9223372036854775807) = true := decide_eq_true c17
                  try have c17b1s := c17b1
                  try simp only [ByteArray.size_append] at c17b1s
                  try have c17b1t := c17b1s
                  try push_cast at c17b1t
                  try have c17b2 : (9223372036854775807 < (x9_4 ++ t124).size + t128.size) = False := eq_false (Nat.not_lt.2 c17)
                  try have c17b2s := c17b2
                  try simp only [ByteArray.size_append] at c17b2s
                  try have c17b2t := c17b2s
                  try push_cast at c17b2t
                  simp only [Option.some.injEq, Prod.mk.injEq] at H
                  obtain ⟨rfl, rfl⟩ := H
                  have hcz18_0 : wc.cell? ⟨gb127, 0, none⟩ = some (.bool t123) := (blk_cell BK127.out 0).trans rfl
                  have hcz18_1 : wc.cell? ⟨gb127, 1, none⟩ = some (.string t124) := (blk_cell BK127.out 1).trans rfl
                  have hcz18_2 : wc.cell? ⟨gb127, 2, none⟩ = some (.int .i64 t125) := (blk_cell BK127.out 2).trans rfl
                  have hfz18_0 := blk_frozen BK127.out 0
                  have hfz18_1 := blk_frozen BK127.out 1
                  have hfz18_2 := blk_frozen BK127.out 2
                  try have c13b0u := c13b0
                  try simp (disch := first | omega | (simp only [decide_eq_true_eq] at *; omega)) only [wrap64_drop, ByteArray.size_append, ext_head, ext_tail] at c13b0u
                  try have c13b0u := c13b0
                  try simp (disch := first | omega | (simp only [decide_eq_true_eq] at *; omega)) only [wrap64_drop, ByteArray.size_append, ext_head, ext_tail] at c13b0u
                  try go_wp2
                  have n0_ := Aside0.mk (blk_drew BK127.out)
                  have n1_ := Aside0.mk (below_drew1 HB.out)
                  clear BK127
                  clear HB
                  have BK127 := n0_
                  have HB := n1_
                  clear n0_ n1_
                  try have c13b0u := c13b0
                  try simp (disch := first | omega | (simp only [decide_eq_true_eq] at *; omega)) only [wrap64_drop, ByteArray.size_append, ext_head, ext_tail] at c13b0u
                  try have c13b0u := c13b0
                  try simp (disch := first | omega | (simp only [decide_eq_true_eq] at *; omega)) only [wrap64_drop, ByteArray.size_append, ext_head, ext_tail] at c13b0u
                  refine start_ (n := 10) (S := fun w' => w'.cell? ⟨gb127, 0, none⟩ = some (.bool t123) ∧ w'.cell? ⟨gb127, 1, none⟩ = some (.string t124) ∧ w'.cell? ⟨gb127, 2, none⟩ = some (.int .i64 t125)) (ds := []) #[false, false, false, false, false, false, false, false, false, false] (by kernel_rfl) rfl rfl ⟨(blk_cell BK127.out 0).trans rfl, (blk_cell BK127.out 1).trans rfl, (blk_cell BK127.out 2).trans rfl⟩ (fun hHeld => ?_); refine with_tabW emendref2_Plain.tab14 emendref2_Plain.bits14 (fun HT_ HW_ => ?_)
                  generalize wc.drew = w19 at BK127 HB hHeld ⊢
                  refine pure_ (i := 0) (N := some 43) (v := ?_) (a' := ?_) #[true, false, false, false, false, false, false, false, false, false] rfl rfl (any_of HT_.out (by kernel_rfl)) (fun _ _ _ h => h) (Or.inl ⟨by rfl, ?_⟩) ?_ ?_
                  rotate_left
                  · intro w'
                    go_simp
                    with_reducible rfl
                  rotate_left
                  · simp only [Act.put, List.setIfInBounds_toArray, List.set_cons_zero, List.set_cons_succ, i64_w, i32_w]
                    rfl
                  refine pure_ (i := 1) (N := some 44) (v := ?_) (a' := ?_) #[true, true, false, false, false, false, false, false, false, false] rfl rfl (any_of HT_.out (by kernel_rfl)) (fun _ _ _ h => h) (Or.inl ⟨by rfl, ?_⟩) ?_ ?_
                  rotate_left
                  · intro w'
                    go_simp
                    with_reducible rfl
                  rotate_left
                  · simp only [Act.put, List.setIfInBounds_toArray, List.set_cons_zero, List.set_cons_succ, i64_w, i32_w]
                    rfl
                  refine pure_ (i := 4) (N := some 47) (v := ?_) (a' := ?_) #[true, true, false, false, true, false, false, false, false, false] rfl rfl (any_of HT_.out (by kernel_rfl)) (fun _ _ _ h => h) (Or.inl ⟨by rfl, ?_⟩) ?_ ?_
                  rotate_left
                  · intro w'
                    go_simp
                    with_reducible rfl
                  rotate_left
                  · simp only [Act.put, List.setIfInBounds_toArray, List.set_cons_zero, List.set_cons_succ, i64_w, i32_w]
                    rfl
                  refine take_ (i := 2) (N := some 45) (v := ?_) (a' := ?_) #[true, true, true, false, true, false, false, false, false, false] rfl rfl (take_ofW HT_.out HW_.out (by kernel_rfl)) (fun _ _ _ h => h) (Or.inl ⟨by rfl, ?_⟩) hHeld ?_ ?_
                  rotate_left
                  · rintro w' ⟨s0, s1, s2⟩
                    go_simp
                    with_reducible rfl
                  rotate_left
                  · simp only [Act.put, List.setIfInBounds_toArray, List.set_cons_zero, List.set_cons_succ, i64_w, i32_w]
                    rfl
                  refine pure_ (i := 3) (N := some 46) (v := ?_) (a' := ?_) #[true, true, true, true, true, false, false, false, false, false] rfl rfl (any_of HT_.out (by kernel_rfl)) (fun _ _ _ h => h) (Or.inl ⟨by rfl, ?_⟩) ?_ ?_
                  rotate_left
                  · intro w'
                    go_simp
                    with_reducible rfl
                  rotate_left
                  · simp only [Act.put, List.setIfInBounds_toArray, List.set_cons_zero, List.set_cons_succ, i64_w, i32_w]
                    rfl
                  refine take_ (i := 5) (N := some 48) (v := ?_) (a' := ?_) #[true, true, true, true, true, true, false, false, false, false] rfl rfl (take_ofW HT_.out HW_.out (by kernel_rfl)) (fun _ _ _ h => h) (Or.inl ⟨by rfl, ?_⟩) hHeld ?_ ?_
                  rotate_left
                  · rintro w' ⟨s0, s1, s2⟩
                    go_simp
                    with_reducible rfl
                  rotate_left
                  · simp only [Act.put, List.setIfInBounds_toArray, List.set_cons_zero, List.set_cons_succ, i64_w, i32_w]
                    rfl
                  refine one_ (i := 6) (N := some 49) #[true, true, true, true, true, true, true, false, false, false] rfl rfl (one_of HT_.out (by kernel_rfl)) (by decide) (fun K hK => ?_)
                  refine goes_ Tryz.func32 (by kernel_rfl) rfl #[.int .i64 t125] (by rfl) rfl rfl (by (try simp only [List.map_toArray, List.map_cons, List.map_nil]); first | done | rfl | (simp only [List.length_drop, List.length_take]; rfl)) ?_
                  with_reducible refine (emendref2_noughts.calls kj4 t125 t128 _ A16.out).mono ?_
                  rintro e w20 ⟨rfl, hb⟩
                  refine ⟨_, rfl, ?_⟩
                  have n0_ := Aside0.mk (blk_below (g := gb127) (o := .cells #[.bool t123, .string t124, .int .i64 t125] 28 (0, 0)) (by (with_reducible repeat (first | refine blk_drewN ?_ _ | refine blk_drew ?_ | refine blk_alloc ?_ _)); exact BK127.out) hb)
                  have n1_ := Aside0.mk (below_step (by repeat (first | (with_reducible first | exact HB.out | apply below_alloc | apply pw_below_drewN | apply below_drew1 | refine below_set ?_ GE127.out) | exact HB.out)) hb)
                  clear BK127
                  clear HB
                  have BK127 := n0_
                  have HB := n1_
                  clear n0_ n1_
                  (try clear hb)
                  (try clear hb2)
                  (try clear hk)
                  (try clear hi)
                  refine hK.out _ _ ⟨(blk_cell BK127.out 0).trans rfl, (blk_cell BK127.out 1).trans rfl, (blk_cell BK127.out 2).trans rfl⟩ (fun hHeld => ?_)
                  clear hK K
                  refine norm_ (a' := ?_) ?_ ?_
                  rotate_left
                  · show Act.put _ (some 49) _ = _
                    simp only [Act.put, List.setIfInBounds_toArray, List.set_cons_zero, List.set_cons_succ, i64_w, i32_w]
                    rfl
                  refine pure_ (i := 7) (N := some 50) (v := ?_) (a' := ?_) #[true, true, true, true, true, true, true, true, false, false] rfl rfl (any_of HT_.out (by kernel_rfl)) (fun _ _ _ h => h) (Or.inl ⟨by rfl, ?_⟩) ?_ ?_
                  rotate_left
                  · intro w'
                    go_simp
                    with_reducible rfl
                  rotate_left
                  · simp only [Act.put, List.setIfInBounds_toArray, List.set_cons_zero, List.set_cons_succ, i64_w, i32_w]
                    rfl
                  refine pure_ (i := 8) (N := some 2) (v := ?_) (a' := ?_) #[true, true, true, true, true, true, true, true, true, false] rfl rfl (any_of HT_.out (by kernel_rfl)) (fun _ _ _ h => h) (Or.inl ⟨by rfl, ?_⟩) ?_ ?_
                  rotate_left
                  · intro w'
                    go_simp
                    with_reducible rfl
                  rotate_left
                  · simp only [Act.put, List.setIfInBounds_toArray, List.set_cons_zero, List.set_cons_succ, i64_w, i32_w]
                    rfl
                  refine pure_ (i := 9) (N := some 3) (v := ?_) (a' := ?_) #[true, true, true, true, true, true, true, true, true, true] rfl rfl (any_of HT_.out (by kernel_rfl)) (fun _ _ _ h => h) (Or.inl ⟨by rfl, ?_⟩) ?_ ?_
                  rotate_left
                  · intro w'
                    go_simp
                    with_reducible rfl
                  rotate_left
                  · simp only [Act.put, List.setIfInBounds_toArray, List.set_cons_zero, List.set_cons_succ, i64_w, i32_w]
                    rfl
                  refine done_ (done_of HT_.out (by kernel_rfl)) ?_
                  try have c13b0u := c13b0
                  try simp (disch := first | omega | (simp only [decide_eq_true_eq] at *; omega)) only [wrap64_drop, ByteArray.size_append, ext_head, ext_tail] at c13b0u
                  try have c13b0u := c13b0
                  try simp (disch := first | omega | (simp only [decide_eq_true_eq] at *; omega)) only [wrap64_drop, ByteArray.size_append, ext_head, ext_tail] at c13b0u
                  try go_wp2
                  go_ret2
                  exact ⟨by first | rfl | (simp [errW_none, errW_some] <;> rfl) | (simp [*, errW_none, errW_some] <;> rfl), by repeat (first | (with_reducible first | exact HB.out | apply below_alloc | apply pw_below_drewN | apply below_drew1 | refine below_set ?_ GE127.out) | exact HB.out)⟩
                · rw [if_neg c17] at H
                  exact absurd H (by simp)
              · rw [if_neg c15] at H
                exact absurd H (by simp)
          · rw [if_neg c12] at H
            have c12b0 : decide (0 ≤ t125) = false := decide_eq_false c12
            clear c12
            have HC21 := Aside0.mk H
            clear H
            have hcz22_0 : wc.cell? ⟨gb127, 0, none⟩ = some (.bool t123) := (blk_cell BK127.out 0).trans rfl
            have hcz22_1 : wc.cell? ⟨gb127, 1, none⟩ = some (.string t124) := (blk_cell BK127.out 1).trans rfl
            have hcz22_2 : wc.cell? ⟨gb127, 2, none⟩ = some (.int .i64 t125) := (blk_cell BK127.out 2).trans rfl
            have hfz22_0 := blk_frozen BK127.out 0
            have hfz22_1 := blk_frozen BK127.out 1
            have hfz22_2 := blk_frozen BK127.out 2
            go_upto_if 61 with (fail)
            go_cut [11] (fun v11 wc => ∃ (kq : Nat) (x11_20 : Int), v11 = .int .i64 x11_20 ∧ Aside0 (emendref2_Plain.j1 kq (t124.size : Int) x9_4 (wrap64 (-t125)) x11_20 t123 t124 t125 = some (r1, r2)) ∧ Aside0 (kq ≤ kj4) ∧ Aside0 (wc.heap[gb127]? = some (.cells #[.bool t123, .string t124, .int .i64 t125] 28 (0, 0))) ∧ Aside0 (Below w.heap.size w wc))
            case first =>
              have H := HC21.out
              clear HC21
              by_cases c23 : (wrap64 (-t125)) ≥ (t124.size : Int)
              · rw [if_pos c23] at H
                have c23b0 : decide ((t124.size : Int) ≤ (wrap64 (-t125))) = true := decide_eq_true c23
                clear c23
                (first | rw [c23b0] | (simp only [i64_w, i32_w]; rw [c23b0]) | skip)
                have H' := Aside0.mk H
                clear H
                try have c23b0u := c23b0
                try simp (disch := first | omega | (simp only [decide_eq_true_eq] at *; omega)) only [wrap64_drop, ByteArray.size_append, ext_head, ext_tail] at c23b0u
                go_wp2
                go_meet
                case rel => exact ⟨_, (wrap64 ((wrap64 ((x9_4.size : Int) + 2)) + (wrap64 (-t125)))), (by first | rfl | (simp; done) | (simp [*]; done) | (congr 1; unfold wrap64; omega)), H', ⟨by have := HJ4.out; first | omega | exact Nat.le_refl _⟩, ⟨by (with_reducible repeat (first | refine blk_drewN ?_ _ | refine blk_drew ?_ | refine blk_alloc ?_ _)); exact BK127.out⟩, ⟨by repeat (first | (with_reducible first | exact HB.out | apply below_alloc | apply pw_below_drewN | apply below_drew1 | refine below_set ?_ GE127.out) | exact HB.out)⟩⟩
              · rw [if_neg c23] at H
                have c23b0 : decide ((t124.size : Int) ≤ (wrap64 (-t125))) = false := decide_eq_false c23
                clear c23
                (first | rw [c23b0] | (simp only [i64_w, i32_w]; rw [c23b0]) | skip)
                have H' := Aside0.mk H
                clear H
                try have c23b0u := c23b0
                try simp (disch := first | omega | (simp only [decide_eq_true_eq] at *; omega)) only [wrap64_drop, ByteArray.size_append, ext_head, ext_tail] at c23b0u
                try have c23b0u := c23b0
                try simp (disch := first | omega | (simp only [decide_eq_true_eq] at *; omega)) only [wrap64_drop, ByteArray.size_append, ext_head, ext_tail] at c23b0u
                go_wp2
                go_meet
                case rel => exact ⟨_, (wrap64 ((wrap64 ((x9_4.size : Int) + (t124.size : Int))) + 1)), (by first | rfl | (simp; done) | (simp [*]; done) | (congr 1; unfold wrap64; omega)), H', ⟨by have := HJ4.out; first | omega | exact Nat.le_refl _⟩, ⟨by (with_reducible repeat (first | refine blk_drewN ?_ _ | refine blk_drew ?_ | refine blk_alloc ?_ _)); exact BK127.out⟩, ⟨by repeat (first | (with_reducible first | exact HB.out | apply below_alloc | apply pw_below_drewN | apply below_drew1 | refine below_set ?_ GE127.out) | exact HB.out)⟩⟩
            case rest =>
              clear HC21
              try clear c1
              try clear c2
              try clear p2
              try clear c3
              try clear c3b0
              try clear c3b1
              try clear p6
              try clear c9
              try clear c10
              try clear c11
              try clear c11b0
              try clear c11b1
              try clear c12
              try clear c12b0
              try clear c13
              try clear c13b0
              try clear c14
              try clear c15
              try clear c15b0
              try clear c15b1
              try clear c15b2
              try clear c17
              try clear c17b0
              try clear c17b1
              try clear c17b2
              try clear c23
              try clear c23b0
              try clear hcz14_0
              try clear hcz14_1
              try clear hcz14_2
              try clear hcz18_0
              try clear hcz18_1
              try clear hcz18_2
              try clear hcz22_0
              try clear hcz22_1
              try clear hcz22_2
              try clear hcz9_0
              try clear hcz9_1
              try clear hcz9_2
              try clear hfz14_0
              try clear hfz14_1
              try clear hfz14_2
              try clear hfz18_0
              try clear hfz18_1
              try clear hfz18_2
              try clear hfz22_0
              try clear hfz22_1
              try clear hfz22_2
              try clear hfz9_0
              try clear hfz9_1
              try clear hfz9_2
              try clear p2
              obtain ⟨kq, x11_20, rfl, HA, HJ20, BK127, HB⟩ := hcut
              cases kq with
              | zero => exact absurd HA.out (by simp [emendref2_Plain.j1])
              | succ kj20 =>
                have H := HA.out
                clear HA
                simp only [emendref2_Plain.j1] at H
                by_cases c24 : x11_20 > 1000
                · rw [if_pos c24] at H
                  have c24b0 : decide (1000 < x11_20) = true := decide_eq_true c24
                  clear c24
                  simp only [Option.some.injEq, Prod.mk.injEq] at H
                  obtain ⟨rfl, rfl⟩ := H
                  go_wp2
                  go_ret2
                  exact ⟨by first | rfl | (simp [errW_none, errW_some] <;> rfl) | (simp [*, errW_none, errW_some] <;> rfl), by repeat (first | (with_reducible first | exact HB.out | apply below_alloc | apply pw_below_drewN | apply below_drew1 | refine below_set ?_ GE127.out) | exact HB.out)⟩
                · rw [if_neg c24] at H
                  have c24b0 : decide (1000 < x11_20) = false := decide_eq_false c24
                  clear c24
                  by_cases c25 : (wrap64 (-t125)) < (t124.size : Int)
                  · rw [if_pos c25] at H
                    have c25b0 : decide ((wrap64 (-t125)) < (t124.size : Int)) = true := decide_eq_true c25
                    clear c25
                    obtain ⟨ji26, hji26⟩ : ∃ j_ : Int, (wrap64 ((t124.size : Int) - (wrap64 (-t125)))) = j_ := ⟨_, rfl⟩
                    replace H : (if 0 ≤ (ji26) then (if (ji26) ≤ (t124.size : Int) then (if x9_4.size + (t124.extract 0 ((ji26) : Int).toNat).size ≤ 9223372036854775807 then (if (x9_4 ++ (t124.extract 0 ((ji26) : Int).toNat)).size + 1 ≤ 9223372036854775807 then (if ((x9_4 ++ (t124.extract 0 ((ji26) : Int).toNat)) ++ (⟨#[46]⟩ : ByteArray)).size + (t124.extract ((ji26) : Int).toNat t124.size).size ≤ 9223372036854775807 then (some (((x9_4 ++ (t124.extract 0 ((ji26) : Int).toNat)) ++ (⟨#[46]⟩ : ByteArray)) ++ (t124.extract ((ji26) : Int).toNat t124.size), 0)) else (none)) else (none)) else (none)) else (none)) else (none)) = some (r1, r2) := by first | (rw [hji26] at H; exact H) | (simp only [hji26] at H ⊢; exact H)
                    have hji26w : (IntKind.i64.wrap ((t124.size : Int) - (wrap64 (-t125)))) = ji26 := (i64_w _).trans hji26
                    by_cases c27 : 0 ≤ (ji26)
                    · rw [if_pos c27] at H
                      have c27b0 := eq_true c27
                      have c27b1 : decide (0 ≤ (ji26)) = true := decide_eq_true c27
                      clear c27
                      by_cases c28 : (ji26) ≤ (t124.size : Int)
                      · rw [if_pos c28] at H
                        have c28b0 := eq_true c28
                        have c28b1 : decide ((ji26) ≤ (t124.size : Int)) = true := decide_eq_true c28
                        clear c28
                        by_cases c29 : x9_4.size + (t124.extract 0 ((ji26) : Int).toNat).size ≤ 9223372036854775807
                        · rw [if_pos c29] at H
                          have c29b0 := eq_true c29
                          have c29b1 : decide (x9_4.size + (t124.extract 0 ((ji26) : Int).toNat).size ≤ 9223372036854775807) = true := decide_eq_true c29
                          try have c29b2 : (9223372036854775807 < x9_4.size + (t124.extract 0 ((ji26) : Int).toNat).size) = False := eq_false (Nat.not_lt.2 c29)
                          by_cases c30 : (x9_4 ++ (t124.extract 0 ((ji26) : Int).toNat)).size + 1 ≤ 9223372036854775807
                          · rw [if_pos c30] at H
                            have c30b0 := eq_true c30
                            have c30b1 : decide ((x9_4 ++ (t124.extract 0 ((ji26) : Int).toNat)).size + 1 ≤ 9223372036854775807) = true := decide_eq_true c30
                            try have c30b1s := c30b1
                            try simp only [ByteArray.size_append] at c30b1s
                            try have c30b1t := c30b1s
                            try push_cast at c30b1t
                            try have c30b2 : (9223372036854775807 < (x9_4 ++ (t124.extract 0 ((ji26) : Int).toNat)).size + 1) = False := eq_false (Nat.not_lt.2 c30)
                            try have c30b2s := c30b2
                            try simp only [ByteArray.size_append] at c30b2s
                            try have c30b2t := c30b2s
                            try push_cast at c30b2t
                            have c31b0 := eq_true (of_decide_eq_true (by first | (with_reducible assumption) | assumption) : 0 ≤ (ji26))
                            have c32b0 := eq_true (of_decide_eq_true (by first | (with_reducible assumption) | assumption) : (ji26) ≤ (t124.size : Int))
                            by_cases c33 : ((x9_4 ++ (t124.extract 0 ((ji26) : Int).toNat)) ++ (⟨#[46]⟩ : ByteArray)).size + (t124.extract ((ji26) : Int).toNat t124.size).size ≤ 9223372036854775807
                            · rw [if_pos c33] at H
                              have c33b0 := eq_true c33
                              have c33b1 : decide (((x9_4 ++ (t124.extract 0 ((ji26) : Int).toNat)) ++ (⟨#[46]⟩ : ByteArray)).size + (t124.extract ((ji26) : Int).toNat t124.size).size ≤ 9223372036854775807) = true := decide_eq_true c33
                              try have c33b1s := c33b1
                              try simp only [ByteArray.size_append, show (⟨#[46]⟩ : ByteArray).size = 1 from rfl] at c33b1s
                              try have c33b1t := c33b1s
                              try push_cast at c33b1t
                              try have c33b2 : (9223372036854775807 < ((x9_4 ++ (t124.extract 0 ((ji26) : Int).toNat)) ++ (⟨#[46]⟩ : ByteArray)).size + (t124.extract ((ji26) : Int).toNat t124.size).size) = False := eq_false (Nat.not_lt.2 c33)
                              try have c33b2s := c33b2
                              try simp only [ByteArray.size_append, show (⟨#[46]⟩ : ByteArray).size = 1 from rfl] at c33b2s
                              try have c33b2t := c33b2s
                              try push_cast at c33b2t
                              simp only [Option.some.injEq, Prod.mk.injEq] at H
                              obtain ⟨rfl, rfl⟩ := H
                              try have c25b0u := c25b0
                              try simp (disch := first | omega | (simp only [decide_eq_true_eq] at *; omega)) only [wrap64_drop, ByteArray.size_append, ext_head, ext_tail] at c25b0u
                              try have c29b1u := c29b1
                              try simp (disch := first | omega | (simp only [decide_eq_true_eq] at *; omega)) only [wrap64_drop, ByteArray.size_append, ext_head, ext_tail] at c29b1u
                              try have c29b2u := c29b2
                              try simp (disch := first | omega | (simp only [decide_eq_true_eq] at *; omega)) only [wrap64_drop, ByteArray.size_append, ext_head, ext_tail] at c29b2u
                              try have c30b1u := c30b1
                              try simp (disch := first | omega | (simp only [decide_eq_true_eq] at *; omega)) only [wrap64_drop, ByteArray.size_append, ext_head, ext_tail] at c30b1u
                              try have c30b2u := c30b2
                              try simp (disch := first | omega | (simp only [decide_eq_true_eq] at *; omega)) only [wrap64_drop, ByteArray.size_append, ext_head, ext_tail] at c30b2u
                              try have c33b1u := c33b1
                              try simp (disch := first | omega | (simp only [decide_eq_true_eq] at *; omega)) only [wrap64_drop, ByteArray.size_append, ext_head, ext_tail, show (⟨#[46]⟩ : ByteArray).size = 1 from rfl] at c33b1u
                              try have c33b2u := c33b2
                              try simp (disch := first | omega | (simp only [decide_eq_true_eq] at *; omega)) only [wrap64_drop, ByteArray.size_append, ext_head, ext_tail, show (⟨#[46]⟩ : ByteArray).size = 1 from rfl] at c33b2u
                              try go_wp2
                              have n0_ := Aside0.mk (blk_drew BK127.out)
                              have n1_ := Aside0.mk (below_drew1 HB.out)
                              clear BK127
                              clear HB
                              have BK127 := n0_
                              have HB := n1_
                              clear n0_ n1_
                              try have c25b0u := c25b0
                              try simp (disch := first | omega | (simp only [decide_eq_true_eq] at *; omega)) only [wrap64_drop, ByteArray.size_append, ext_head, ext_tail] at c25b0u
                              try have c29b1u := c29b1
                              try simp (disch := first | omega | (simp only [decide_eq_true_eq] at *; omega)) only [wrap64_drop, ByteArray.size_append, ext_head, ext_tail] at c29b1u
                              try have c29b2u := c29b2
                              try simp (disch := first | omega | (simp only [decide_eq_true_eq] at *; omega)) only [wrap64_drop, ByteArray.size_append, ext_head, ext_tail] at c29b2u
                              try have c30b1u := c30b1
                              try simp (disch := first | omega | (simp only [decide_eq_true_eq] at *; omega)) only [wrap64_drop, ByteArray.size_append, ext_head, ext_tail] at c30b1u
                              try have c30b2u := c30b2
                              try simp (disch := first | omega | (simp only [decide_eq_true_eq] at *; omega)) only [wrap64_drop, ByteArray.size_append, ext_head, ext_tail] at c30b2u
                              try have c33b1u := c33b1
                              try simp (disch := first | omega | (simp only [decide_eq_true_eq] at *; omega)) only [wrap64_drop, ByteArray.size_append, ext_head, ext_tail, show (⟨#[46]⟩ : ByteArray).size = 1 from rfl] at c33b1u
                              try have c33b2u := c33b2
                              try simp (disch := first | omega | (simp only [decide_eq_true_eq] at *; omega)) only [wrap64_drop, ByteArray.size_append, ext_head, ext_tail, show (⟨#[46]⟩ : ByteArray).size = 1 from rfl] at c33b2u
                              refine start_ (n := 18) (S := fun w' => w'.cell? ⟨gb127, 0, none⟩ = some (.bool t123) ∧ w'.cell? ⟨gb127, 1, none⟩ = some (.string t124) ∧ w'.cell? ⟨gb127, 2, none⟩ = some (.int .i64 t125)) (ds := []) #[false, false, false, false, false, false, false, false, false, false, false, false, false, false, false, false, false, false] (by kernel_rfl) rfl rfl ⟨(blk_cell BK127.out 0).trans rfl, (blk_cell BK127.out 1).trans rfl, (blk_cell BK127.out 2).trans rfl⟩ (fun hHeld => ?_); refine with_tabW emendref2_Plain.tab22 emendref2_Plain.bits22 (fun HT_ HW_ => ?_)
                              generalize wc.drew = w34 at BK127 HB hHeld ⊢
                              refine pure_ (i := 0) (N := some 72) (v := ?_) (a' := ?_) #[true, false, false, false, false, false, false, false, false, false, false, false, false, false, false, false, false, false] rfl rfl (any_of HT_.out (by kernel_rfl)) (fun _ _ _ h => h) (Or.inl ⟨by rfl, ?_⟩) ?_ ?_
                              rotate_left
                              · intro w'
                                go_simp
                                with_reducible rfl
                              rotate_left
                              · simp only [Act.put, List.setIfInBounds_toArray, List.set_cons_zero, List.set_cons_succ, i64_w, i32_w]
                                rfl
                              refine pure_ (i := 1) (N := some 73) (v := ?_) (a' := ?_) #[true, true, false, false, false, false, false, false, false, false, false, false, false, false, false, false, false, false] rfl rfl (any_of HT_.out (by kernel_rfl)) (fun _ _ _ h => h) (Or.inl ⟨by rfl, ?_⟩) ?_ ?_
                              rotate_left
                              · intro w'
                                go_simp
                                with_reducible rfl
                              rotate_left
                              · simp only [Act.put, List.setIfInBounds_toArray, List.set_cons_zero, List.set_cons_succ, i64_w, i32_w]
                                rfl
                              refine pure_ (i := 3) (N := some 75) (v := ?_) (a' := ?_) #[true, true, false, true, false, false, false, false, false, false, false, false, false, false, false, false, false, false] rfl rfl (any_of HT_.out (by kernel_rfl)) (fun _ _ _ h => h) (Or.inl ⟨by rfl, ?_⟩) ?_ ?_
                              rotate_left
                              · intro w'
                                go_simp
                                with_reducible rfl
                              rotate_left
                              · simp only [Act.put, List.setIfInBounds_toArray, List.set_cons_zero, List.set_cons_succ, i64_w, i32_w]
                                rfl
                              refine pure_ (i := 4) (N := some 76) (v := ?_) (a' := ?_) #[true, true, false, true, true, false, false, false, false, false, false, false, false, false, false, false, false, false] rfl rfl (any_of HT_.out (by kernel_rfl)) (fun _ _ _ h => h) (Or.inl ⟨by rfl, ?_⟩) ?_ ?_
                              rotate_left
                              · intro w'
                                go_simp
                                with_reducible rfl
                              rotate_left
                              · simp only [Act.put, List.setIfInBounds_toArray, List.set_cons_zero, List.set_cons_succ, i64_w, i32_w]
                                rfl
                              refine pure_ (i := 5) (N := some 77) (v := ?_) (a' := ?_) #[true, true, false, true, true, true, false, false, false, false, false, false, false, false, false, false, false, false] rfl rfl (any_of HT_.out (by kernel_rfl)) (fun _ _ _ h => h) (Or.inl ⟨by rfl, ?_⟩) ?_ ?_
                              rotate_left
                              · intro w'
                                go_simp
                                with_reducible rfl
                              rotate_left
                              · simp only [Act.put, List.setIfInBounds_toArray, List.set_cons_zero, List.set_cons_succ, i64_w, i32_w]
                                rfl
                              refine pure_ (i := 9) (N := some 81) (v := ?_) (a' := ?_) #[true, true, false, true, true, true, false, false, false, true, false, false, false, false, false, false, false, false] rfl rfl (any_of HT_.out (by kernel_rfl)) (fun _ _ _ h => h) (Or.inl ⟨by rfl, ?_⟩) ?_ ?_
                              rotate_left
                              · intro w'
                                go_simp
                                with_reducible rfl
                              rotate_left
                              · simp only [Act.put, List.setIfInBounds_toArray, List.set_cons_zero, List.set_cons_succ, i64_w, i32_w]
                                rfl
                              refine pure_ (i := 11) (N := some 83) (v := ?_) (a' := ?_) #[true, true, false, true, true, true, false, false, false, true, false, true, false, false, false, false, false, false] rfl rfl (any_of HT_.out (by kernel_rfl)) (fun _ _ _ h => h) (Or.inl ⟨by rfl, ?_⟩) ?_ ?_
                              rotate_left
                              · intro w'
                                go_simp
                                with_reducible rfl
                              rotate_left
                              · simp only [Act.put, List.setIfInBounds_toArray, List.set_cons_zero, List.set_cons_succ, i64_w, i32_w]
                                rfl
                              refine pure_ (i := 12) (N := some 84) (v := ?_) (a' := ?_) #[true, true, false, true, true, true, false, false, false, true, false, true, true, false, false, false, false, false] rfl rfl (any_of HT_.out (by kernel_rfl)) (fun _ _ _ h => h) (Or.inl ⟨by rfl, ?_⟩) ?_ ?_
                              rotate_left
                              · intro w'
                                go_simp
                                with_reducible rfl
                              rotate_left
                              · simp only [Act.put, List.setIfInBounds_toArray, List.set_cons_zero, List.set_cons_succ, i64_w, i32_w]
                                rfl
                              refine pure_ (i := 13) (N := some 85) (v := ?_) (a' := ?_) #[true, true, false, true, true, true, false, false, false, true, false, true, true, true, false, false, false, false] rfl rfl (any_of HT_.out (by kernel_rfl)) (fun _ _ _ h => h) (Or.inl ⟨by rfl, ?_⟩) ?_ ?_
                              rotate_left
                              · intro w'
                                go_simp
                                with_reducible rfl
                              rotate_left
                              · simp only [Act.put, List.setIfInBounds_toArray, List.set_cons_zero, List.set_cons_succ, i64_w, i32_w]
                                rfl
                              refine take_ (i := 2) (N := some 74) (v := ?_) (a' := ?_) #[true, true, true, true, true, true, false, false, false, true, false, true, true, true, false, false, false, false] rfl rfl (take_ofW HT_.out HW_.out (by kernel_rfl)) (fun _ _ _ h => h) (Or.inl ⟨by rfl, ?_⟩) hHeld ?_ ?_
                              rotate_left
                              · rintro w' ⟨s0, s1, s2⟩
                                go_simp
                                with_reducible rfl
                              rotate_left
                              · simp only [Act.put, List.setIfInBounds_toArray, List.set_cons_zero, List.set_cons_succ, i64_w, i32_w]
                                rfl
                              refine pure_ (i := 6) (N := some 78) (v := ?_) (a' := ?_) #[true, true, true, true, true, true, true, false, false, true, false, true, true, true, false, false, false, false] rfl rfl (any_of HT_.out (by kernel_rfl)) (fun _ _ _ h => h) (Or.inl ⟨by rfl, ?_⟩) ?_ ?_
                              rotate_left
                              · intro w'
                                go_simp
                                with_reducible rfl
                              rotate_left
                              · simp only [Act.put, List.setIfInBounds_toArray, List.set_cons_zero, List.set_cons_succ, i64_w, i32_w]
                                rfl
                              refine pure_ (i := 7) (N := some 79) (v := ?_) (a' := ?_) #[true, true, true, true, true, true, true, true, false, true, false, true, true, true, false, false, false, false] rfl rfl (any_of HT_.out (by kernel_rfl)) (fun _ _ _ h => h) (Or.inl ⟨by rfl, ?_⟩) ?_ ?_
                              rotate_left
                              · intro w'
                                go_simp
                                with_reducible rfl
                              rotate_left
                              · simp only [Act.put, List.setIfInBounds_toArray, List.set_cons_zero, List.set_cons_succ, i64_w, i32_w]
                                rfl
                              refine pure_ (i := 8) (N := some 80) (v := ?_) (a' := ?_) #[true, true, true, true, true, true, true, true, true, true, false, true, true, true, false, false, false, false] rfl rfl (any_of HT_.out (by kernel_rfl)) (fun _ _ _ h => h) (Or.inl ⟨by rfl, ?_⟩) ?_ ?_
                              rotate_left
                              · intro w'
                                go_simp
                                with_reducible rfl
                              rotate_left
                              · simp only [Act.put, List.setIfInBounds_toArray, List.set_cons_zero, List.set_cons_succ, i64_w, i32_w]
                                rfl
                              refine take_ (i := 10) (N := some 82) (v := ?_) (a' := ?_) #[true, true, true, true, true, true, true, true, true, true, true, true, true, true, false, false, false, false] rfl rfl (take_ofW HT_.out HW_.out (by kernel_rfl)) (fun _ _ _ h => h) (Or.inl ⟨by rfl, ?_⟩) hHeld ?_ ?_
                              rotate_left
                              · rintro w' ⟨s0, s1, s2⟩
                                go_simp
                                with_reducible rfl
                              rotate_left
                              · simp only [Act.put, List.setIfInBounds_toArray, List.set_cons_zero, List.set_cons_succ, i64_w, i32_w]
                                rfl
                              refine pure_ (i := 14) (N := some 86) (v := ?_) (a' := ?_) #[true, true, true, true, true, true, true, true, true, true, true, true, true, true, true, false, false, false] rfl rfl (any_of HT_.out (by kernel_rfl)) (fun _ _ _ h => h) (Or.inl ⟨by rfl, ?_⟩) ?_ ?_
                              rotate_left
                              · intro w'
                                go_simp
                                with_reducible rfl
                              rotate_left
                              · simp only [Act.put, List.setIfInBounds_toArray, List.set_cons_zero, List.set_cons_succ, i64_w, i32_w]
                                rfl
                              refine pure_ (i := 15) (N := some 87) (v := ?_) (a' := ?_) #[true, true, true, true, true, true, true, true, true, true, true, true, true, true, true, true, false, false] rfl rfl (any_of HT_.out (by kernel_rfl)) (fun _ _ _ h => h) (Or.inl ⟨by rfl, ?_⟩) ?_ ?_
                              rotate_left
                              · intro w'
                                go_simp
                                with_reducible rfl
                              rotate_left
                              · simp only [Act.put, List.setIfInBounds_toArray, List.set_cons_zero, List.set_cons_succ, i64_w, i32_w]
                                rfl
                              refine pure_ (i := 16) (N := some 2) (v := ?_) (a' := ?_) #[true, true, true, true, true, true, true, true, true, true, true, true, true, true, true, true, true, false] rfl rfl (any_of HT_.out (by kernel_rfl)) (fun _ _ _ h => h) (Or.inl ⟨by rfl, ?_⟩) ?_ ?_
                              rotate_left
                              · intro w'
                                go_simp
                                with_reducible rfl
                              rotate_left
                              · simp only [Act.put, List.setIfInBounds_toArray, List.set_cons_zero, List.set_cons_succ, i64_w, i32_w]
                                rfl
                              refine pure_ (i := 17) (N := some 3) (v := ?_) (a' := ?_) #[true, true, true, true, true, true, true, true, true, true, true, true, true, true, true, true, true, true] rfl rfl (any_of HT_.out (by kernel_rfl)) (fun _ _ _ h => h) (Or.inl ⟨by rfl, ?_⟩) ?_ ?_
                              rotate_left
                              · intro w'
                                go_simp
                                with_reducible rfl
                              rotate_left
                              · simp only [Act.put, List.setIfInBounds_toArray, List.set_cons_zero, List.set_cons_succ, i64_w, i32_w]
                                rfl
                              refine done_ (done_of HT_.out (by kernel_rfl)) ?_
                              try have c25b0u := c25b0
                              try simp (disch := first | omega | (simp only [decide_eq_true_eq] at *; omega)) only [wrap64_drop, ByteArray.size_append, ext_head, ext_tail] at c25b0u
                              try have c29b1u := c29b1
                              try simp (disch := first | omega | (simp only [decide_eq_true_eq] at *; omega)) only [wrap64_drop, ByteArray.size_append, ext_head, ext_tail] at c29b1u
                              try have c29b2u := c29b2
                              try simp (disch := first | omega | (simp only [decide_eq_true_eq] at *; omega)) only [wrap64_drop, ByteArray.size_append, ext_head, ext_tail] at c29b2u
                              try have c30b1u := c30b1
                              try simp (disch := first | omega | (simp only [decide_eq_true_eq] at *; omega)) only [wrap64_drop, ByteArray.size_append, ext_head, ext_tail] at c30b1u
                              try have c30b2u := c30b2
                              try simp (disch := first | omega | (simp only [decide_eq_true_eq] at *; omega)) only [wrap64_drop, ByteArray.size_append, ext_head, ext_tail] at c30b2u
                              try have c33b1u := c33b1
                              try simp (disch := first | omega | (simp only [decide_eq_true_eq] at *; omega)) only [wrap64_drop, ByteArray.size_append, ext_head, ext_tail, show (⟨#[46]⟩ : ByteArray).size = 1 from rfl] at c33b1u
                              try have c33b2u := c33b2
                              try simp (disch := first | omega | (simp only [decide_eq_true_eq] at *; omega)) only [wrap64_drop, ByteArray.size_append, ext_head, ext_tail, show (⟨#[46]⟩ : ByteArray).size = 1 from rfl] at c33b2u
                              try go_wp2
                              go_ret2
                              exact ⟨by first | rfl | (simp [errW_none, errW_some] <;> rfl) | (simp only [← hji26]; first | rfl | (simp [errW_none, errW_some] <;> rfl)) | (simp [*, errW_none, errW_some] <;> rfl), by repeat (first | (with_reducible first | exact HB.out | apply below_alloc | apply pw_below_drewN | apply below_drew1 | refine below_set ?_ GE127.out) | exact HB.out)⟩
                            · rw [if_neg c33] at H
                              exact absurd H (by simp)
                          · rw [if_neg c30] at H
                            exact absurd H (by simp)
                        · rw [if_neg c29] at H
                          exact absurd H (by simp)
                      · rw [if_neg c28] at H
                        exact absurd H (by simp)
                    · rw [if_neg c27] at H
                      exact absurd H (by simp)
                  · rw [if_neg c25] at H
                    have c25b0 : decide ((wrap64 (-t125)) < (t124.size : Int)) = false := decide_eq_false c25
                    clear c25
                    by_cases c35 : x9_4.size + 2 ≤ 9223372036854775807
                    · rw [if_pos c35] at H
                      have c35b0 := eq_true c35
                      have c35b1 : decide (x9_4.size + 2 ≤ 9223372036854775807) = true := decide_eq_true c35
                      try have c35b2 : (9223372036854775807 < x9_4.size + 2) = False := eq_false (Nat.not_lt.2 c35)
                      replace H := Option.bind_eq_some_iff.mp H
                      obtain ⟨t129, A360, H⟩ := H
                      replace H : (if (x9_4 ++ (⟨#[48, 46]⟩ : ByteArray)).size + t129.size ≤ 9223372036854775807 then (if ((x9_4 ++ (⟨#[48, 46]⟩ : ByteArray)) ++ t129).size + t124.size ≤ 9223372036854775807 then (some (((x9_4 ++ (⟨#[48, 46]⟩ : ByteArray)) ++ t129) ++ t124, 0)) else (none)) else (none)) = some (r1, r2) := H
                      have A36 := Aside0.mk A360
                      clear A360
                      by_cases c37 : (x9_4 ++ (⟨#[48, 46]⟩ : ByteArray)).size + t129.size ≤ 9223372036854775807
                      · rw [if_pos c37] at H
                        have c37b0 := eq_true c37
                        have c37b1 : decide ((x9_4 ++ (⟨#[48, 46]⟩ : ByteArray)).size + t129.size ≤ 9223372036854775807) = true := decide_eq_true c37
                        try have c37b1s := c37b1
                        try simp only [ByteArray.size_append, show (⟨#[48, 46]⟩ : ByteArray).size = 2 from rfl] at c37b1s
                        try have c37b1t := c37b1s
                        try push_cast at c37b1t
                        try have c37b2 : (9223372036854775807 < (x9_4 ++ (⟨#[48, 46]⟩ : ByteArray)).size + t129.size) = False := eq_false (Nat.not_lt.2 c37)
                        try have c37b2s := c37b2
                        try simp only [ByteArray.size_append, show (⟨#[48, 46]⟩ : ByteArray).size = 2 from rfl] at c37b2s
                        try have c37b2t := c37b2s
                        try push_cast at c37b2t
                        by_cases c38 : ((x9_4 ++ (⟨#[48, 46]⟩ : ByteArray)) ++ t129).size + t124.size ≤ 9223372036854775807
                        · rw [if_pos c38] at H
                          have c38b0 := eq_true c38
                          have c38b1 : decide (((x9_4 ++ (⟨#[48, 46]⟩ : ByteArray)) ++ t129).size + t124.size ≤ 9223372036854775807) = true := decide_eq_true c38
                          try have c38b1s := c38b1
                          try simp only [ByteArray.size_append, show (⟨#[48, 46]⟩ : ByteArray).size = 2 from rfl] at c38b1s
                          try have c38b1t := c38b1s
                          try push_cast at c38b1t
                          try have c38b2 : (9223372036854775807 < ((x9_4 ++ (⟨#[48, 46]⟩ : ByteArray)) ++ t129).size + t124.size) = False := eq_false (Nat.not_lt.2 c38)
                          try have c38b2s := c38b2
                          try simp only [ByteArray.size_append, show (⟨#[48, 46]⟩ : ByteArray).size = 2 from rfl] at c38b2s
                          try have c38b2t := c38b2s
                          try push_cast at c38b2t
                          simp only [Option.some.injEq, Prod.mk.injEq] at H
                          obtain ⟨rfl, rfl⟩ := H
                          try have c25b0u := c25b0
                          try simp (disch := first | omega | (simp only [decide_eq_true_eq] at *; omega)) only [wrap64_drop, ByteArray.size_append, ext_head, ext_tail] at c25b0u
                          try have c25b0u := c25b0
                          try simp (disch := first | omega | (simp only [decide_eq_true_eq] at *; omega)) only [wrap64_drop, ByteArray.size_append, ext_head, ext_tail] at c25b0u
                          try go_wp2
                          have n0_ := Aside0.mk (blk_drew BK127.out)
                          have n1_ := Aside0.mk (below_drew1 HB.out)
                          clear BK127
                          clear HB
                          have BK127 := n0_
                          have HB := n1_
                          clear n0_ n1_
                          try have c25b0u := c25b0
                          try simp (disch := first | omega | (simp only [decide_eq_true_eq] at *; omega)) only [wrap64_drop, ByteArray.size_append, ext_head, ext_tail] at c25b0u
                          try have c25b0u := c25b0
                          try simp (disch := first | omega | (simp only [decide_eq_true_eq] at *; omega)) only [wrap64_drop, ByteArray.size_append, ext_head, ext_tail] at c25b0u
                          refine start_ (n := 12) (S := fun w' => w'.cell? ⟨gb127, 0, none⟩ = some (.bool t123) ∧ w'.cell? ⟨gb127, 1, none⟩ = some (.string t124) ∧ w'.cell? ⟨gb127, 2, none⟩ = some (.int .i64 t125)) (ds := []) #[false, false, false, false, false, false, false, false, false, false, false, false] (by kernel_rfl) rfl rfl ⟨(blk_cell BK127.out 0).trans rfl, (blk_cell BK127.out 1).trans rfl, (blk_cell BK127.out 2).trans rfl⟩ (fun hHeld => ?_); refine with_tabW emendref2_Plain.tab23 emendref2_Plain.bits23 (fun HT_ HW_ => ?_)
                          generalize wc.drew = w39 at BK127 HB hHeld ⊢
                          refine pure_ (i := 0) (N := some 88) (v := ?_) (a' := ?_) #[true, false, false, false, false, false, false, false, false, false, false, false] rfl rfl (any_of HT_.out (by kernel_rfl)) (fun _ _ _ h => h) (Or.inl ⟨by rfl, ?_⟩) ?_ ?_
                          rotate_left
                          · intro w'
                            go_simp
                            with_reducible rfl
                          rotate_left
                          · simp only [Act.put, List.setIfInBounds_toArray, List.set_cons_zero, List.set_cons_succ, i64_w, i32_w]
                            rfl
                          refine pure_ (i := 1) (N := some 89) (v := ?_) (a' := ?_) #[true, true, false, false, false, false, false, false, false, false, false, false] rfl rfl (any_of HT_.out (by kernel_rfl)) (fun _ _ _ h => h) (Or.inl ⟨by rfl, ?_⟩) ?_ ?_
                          rotate_left
                          · intro w'
                            go_simp
                            with_reducible rfl
                          rotate_left
                          · simp only [Act.put, List.setIfInBounds_toArray, List.set_cons_zero, List.set_cons_succ, i64_w, i32_w]
                            rfl
                          refine pure_ (i := 2) (N := some 90) (v := ?_) (a' := ?_) #[true, true, true, false, false, false, false, false, false, false, false, false] rfl rfl (any_of HT_.out (by kernel_rfl)) (fun _ _ _ h => h) (Or.inl ⟨by rfl, ?_⟩) ?_ ?_
                          rotate_left
                          · intro w'
                            go_simp
                            with_reducible rfl
                          rotate_left
                          · simp only [Act.put, List.setIfInBounds_toArray, List.set_cons_zero, List.set_cons_succ, i64_w, i32_w]
                            rfl
                          refine pure_ (i := 3) (N := some 91) (v := ?_) (a' := ?_) #[true, true, true, true, false, false, false, false, false, false, false, false] rfl rfl (any_of HT_.out (by kernel_rfl)) (fun _ _ _ h => h) (Or.inl ⟨by rfl, ?_⟩) ?_ ?_
                          rotate_left
                          · intro w'
                            go_simp
                            with_reducible rfl
                          rotate_left
                          · simp only [Act.put, List.setIfInBounds_toArray, List.set_cons_zero, List.set_cons_succ, i64_w, i32_w]
                            rfl
                          refine pure_ (i := 4) (N := some 92) (v := ?_) (a' := ?_) #[true, true, true, true, true, false, false, false, false, false, false, false] rfl rfl (any_of HT_.out (by kernel_rfl)) (fun _ _ _ h => h) (Or.inl ⟨by rfl, ?_⟩) ?_ ?_
                          rotate_left
                          · intro w'
                            go_simp
                            with_reducible rfl
                          rotate_left
                          · simp only [Act.put, List.setIfInBounds_toArray, List.set_cons_zero, List.set_cons_succ, i64_w, i32_w]
                            rfl
                          refine pure_ (i := 7) (N := some 95) (v := ?_) (a' := ?_) #[true, true, true, true, true, false, false, true, false, false, false, false] rfl rfl (any_of HT_.out (by kernel_rfl)) (fun _ _ _ h => h) (Or.inl ⟨by rfl, ?_⟩) ?_ ?_
                          rotate_left
                          · intro w'
                            go_simp
                            with_reducible rfl
                          rotate_left
                          · simp only [Act.put, List.setIfInBounds_toArray, List.set_cons_zero, List.set_cons_succ, i64_w, i32_w]
                            rfl
                          refine take_ (i := 8) (N := some 96) (v := ?_) (a' := ?_) #[true, true, true, true, true, false, false, true, true, false, false, false] rfl rfl (take_ofW HT_.out HW_.out (by kernel_rfl)) (fun _ _ _ h => h) (Or.inl ⟨by rfl, ?_⟩) hHeld ?_ ?_
                          rotate_left
                          · rintro w' ⟨s0, s1, s2⟩
                            go_simp
                            with_reducible rfl
                          rotate_left
                          · simp only [Act.put, List.setIfInBounds_toArray, List.set_cons_zero, List.set_cons_succ, i64_w, i32_w]
                            rfl
                          refine one_ (i := 5) (N := some 93) #[true, true, true, true, true, true, false, true, true, false, false, false] rfl rfl (one_of HT_.out (by kernel_rfl)) (by decide) (fun K hK => ?_)
                          refine goes_ Tryz.func32 (by kernel_rfl) rfl #[.int .i64 (wrap64 ((wrap64 (-t125)) - (t124.size : Int)))] (by rfl) rfl rfl (by (try simp only [List.map_toArray, List.map_cons, List.map_nil]); first | done | rfl | (simp only [List.length_drop, List.length_take]; rfl)) ?_
                          with_reducible refine (emendref2_noughts.calls kj20 (wrap64 ((wrap64 (-t125)) - (t124.size : Int))) t129 _ A36.out).mono ?_
                          rintro e w40 ⟨rfl, hb⟩
                          refine ⟨_, rfl, ?_⟩
                          have n0_ := Aside0.mk (blk_below (g := gb127) (o := .cells #[.bool t123, .string t124, .int .i64 t125] 28 (0, 0)) (by (with_reducible repeat (first | refine blk_drewN ?_ _ | refine blk_drew ?_ | refine blk_alloc ?_ _)); exact BK127.out) hb)
                          have n1_ := Aside0.mk (below_step (by repeat (first | (with_reducible first | exact HB.out | apply below_alloc | apply pw_below_drewN | apply below_drew1 | refine below_set ?_ GE127.out) | exact HB.out)) hb)
                          clear BK127
                          clear HB
                          have BK127 := n0_
                          have HB := n1_
                          clear n0_ n1_
                          (try clear hb)
                          (try clear hb2)
                          (try clear hk)
                          (try clear hi)
                          refine hK.out _ _ ⟨(blk_cell BK127.out 0).trans rfl, (blk_cell BK127.out 1).trans rfl, (blk_cell BK127.out 2).trans rfl⟩ (fun hHeld => ?_)
                          clear hK K
                          refine norm_ (a' := ?_) ?_ ?_
                          rotate_left
                          · show Act.put _ (some 93) _ = _
                            simp only [Act.put, List.setIfInBounds_toArray, List.set_cons_zero, List.set_cons_succ, i64_w, i32_w]
                            rfl
                          refine pure_ (i := 6) (N := some 94) (v := ?_) (a' := ?_) #[true, true, true, true, true, true, true, true, true, false, false, false] rfl rfl (any_of HT_.out (by kernel_rfl)) (fun _ _ _ h => h) (Or.inl ⟨by rfl, ?_⟩) ?_ ?_
                          rotate_left
                          · intro w'
                            go_simp
                            with_reducible rfl
                          rotate_left
                          · simp only [Act.put, List.setIfInBounds_toArray, List.set_cons_zero, List.set_cons_succ, i64_w, i32_w]
                            rfl
                          refine pure_ (i := 9) (N := some 97) (v := ?_) (a' := ?_) #[true, true, true, true, true, true, true, true, true, true, false, false] rfl rfl (any_of HT_.out (by kernel_rfl)) (fun _ _ _ h => h) (Or.inl ⟨by rfl, ?_⟩) ?_ ?_
                          rotate_left
                          · intro w'
                            go_simp
                            with_reducible rfl
                          rotate_left
                          · simp only [Act.put, List.setIfInBounds_toArray, List.set_cons_zero, List.set_cons_succ, i64_w, i32_w]
                            rfl
                          refine pure_ (i := 10) (N := some 2) (v := ?_) (a' := ?_) #[true, true, true, true, true, true, true, true, true, true, true, false] rfl rfl (any_of HT_.out (by kernel_rfl)) (fun _ _ _ h => h) (Or.inl ⟨by rfl, ?_⟩) ?_ ?_
                          rotate_left
                          · intro w'
                            go_simp
                            with_reducible rfl
                          rotate_left
                          · simp only [Act.put, List.setIfInBounds_toArray, List.set_cons_zero, List.set_cons_succ, i64_w, i32_w]
                            rfl
                          refine pure_ (i := 11) (N := some 3) (v := ?_) (a' := ?_) #[true, true, true, true, true, true, true, true, true, true, true, true] rfl rfl (any_of HT_.out (by kernel_rfl)) (fun _ _ _ h => h) (Or.inl ⟨by rfl, ?_⟩) ?_ ?_
                          rotate_left
                          · intro w'
                            go_simp
                            with_reducible rfl
                          rotate_left
                          · simp only [Act.put, List.setIfInBounds_toArray, List.set_cons_zero, List.set_cons_succ, i64_w, i32_w]
                            rfl
                          refine done_ (done_of HT_.out (by kernel_rfl)) ?_
                          try have c25b0u := c25b0
                          try simp (disch := first | omega | (simp only [decide_eq_true_eq] at *; omega)) only [wrap64_drop, ByteArray.size_append, ext_head, ext_tail] at c25b0u
                          try have c25b0u := c25b0
                          try simp (disch := first | omega | (simp only [decide_eq_true_eq] at *; omega)) only [wrap64_drop, ByteArray.size_append, ext_head, ext_tail] at c25b0u
                          try go_wp2
                          go_ret2
                          exact ⟨by first | rfl | (simp [errW_none, errW_some] <;> rfl) | (simp [*, errW_none, errW_some] <;> rfl), by repeat (first | (with_reducible first | exact HB.out | apply below_alloc | apply pw_below_drewN | apply below_drew1 | refine below_set ?_ GE127.out) | exact HB.out)⟩
                        · rw [if_neg c38] at H
                          exact absurd H (by simp)
                      · rw [if_neg c37] at H
                        exact absurd H (by simp)
                    · rw [if_neg c35] at H
                      exact absurd H (by simp)
  · rw [if_neg c3] at H
    have c3b0 : (t122 == 0) = false := beq_eq_false_iff_ne.mpr c3
    have c3b1 : (t122 != 0) = true := bne_iff_ne.mpr c3
    simp only [Option.some.injEq, Prod.mk.injEq] at H
    obtain ⟨rfl, rfl⟩ := H
    go_enter Tryz.func14, Tryz.ntmps14
    go_wp2_with (first | ((with_reducible refine gate_callee (f := 11) rfl ?_); refine goesL_ (some 14) rfl rfl Tryz.func11 (by kernel_rfl) rfl #[.string a0] rfl (by (try simp only [List.map_toArray, List.map_cons, List.map_nil]); first | done | rfl | (simp only [List.length_drop, List.length_take]; rfl)) ?_; (with_reducible refine (emendref2_Normal.calls k a0 t121 t122 _ A2.out).mono ?_); rintro e w41 ⟨rfl, hb⟩; refine ⟨_, rfl, ?_⟩; have n0_ := Aside0.mk (below_step (by repeat (first | (with_reducible first | exact HB.out | apply below_alloc | apply pw_below_drewN | apply below_drew1) | exact HB.out)) hb); clear HB; have HB := n0_; clear n0_; (try clear hb); (try clear hb2); (try clear hk); (try clear hi)))
    go_ret2
    exact ⟨by first | rfl | (simp [errW_none, errW_some] <;> rfl) | (simp [*, errW_none, errW_some] <;> rfl), by repeat (first | (with_reducible first | exact HB.out | apply below_alloc | apply pw_below_drewN | apply below_drew1) | exact HB.out)⟩

end Go.Proofs.YtjaongknagmfiaaGreatDoor.PP
