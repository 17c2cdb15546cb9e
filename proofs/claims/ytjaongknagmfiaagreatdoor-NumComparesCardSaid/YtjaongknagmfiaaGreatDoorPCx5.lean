-- PRINTED by print.py (a twelfth state) out of the translation. Not trusted: Lean checks it.
import Derived.Test.YtjaongknagmfiaaGreatDoorPCx0
import Derived.Test.YtjaongknagmfiaaGreatDoorPCx2
import Derived.Test.YtjaongknagmfiaaGreatDoorPCx4
namespace Go.Proofs.YtjaongknagmfiaaGreatDoor.PC
open Go.RowKit Go.Proofs.YtjaongknagmfiaaGreatDoorW.PrintWords Go.Proofs.YtjaongknagmfiaaGreatDoorW.PrintLast Go.Proofs.YtjaongknagmfiaaGreatDoorW.PrintMore
attribute [local go_sem] max2_int min2_int max_two min_two max_three min_three max_four min_four   -- for this text's walks alone
set_option linter.unusedVariables false
set_option linter.unusedSimpArgs false

/-! ### emendref2_Normal: function 11 -/
def emendref2_Normal.f (k : Nat) (a0 : ByteArray) : Option (ByteArray × Int) := (emendref2_Split.f k a0).bind fun bt110 => (if bt110.2.2.2 = 0 then ((emendref2_Join.f k bt110.1 bt110.2.1 bt110.2.2.1).bind fun bt115 => (some (bt115.1, bt115.2))) else (some ((⟨#[]⟩ : ByteArray), bt110.2.2.2)))
theorem emendref2_Normal.mono : ∀ a0 k, LeO (emendref2_Normal.f k a0) (emendref2_Normal.f (k + 1) a0) := by
  intro a0 k
  unfold emendref2_Normal.f
  repeat' first
      | (with_reducible exact emendref2_Join.mono _ _ _ _)
      | (with_reducible exact emendref2_Split.mono _ _)
      | (with_reducible exact LeO.refl _)
      | (with_reducible exact LeO.none _)
      | (with_reducible refine LeO.ite ?_ ?_)
      | (with_reducible refine LeO.bind ?_ (fun _ => ?_))
      | exact emendref2_Join.mono _ _ _ _
      | exact emendref2_Split.mono _ _
      | exact LeO.none _
      | refine LeO.ite ?_ ?_
      | refine LeO.bind ?_ (fun _ => ?_)
set_option maxHeartbeats 8000000 in
set_option maxRecDepth 100000 in
theorem emendref2_Normal.calls (k : Nat) (a0 : ByteArray) (r1 : ByteArray) (r2 : Int) (w : World) (h : emendref2_Normal.f k a0 = some (r1, r2)) :
    Calls Tryz.prog 11 #[.string a0] w fun e w' => e = .returned (.tuple #[.string r1, .int .i64 r2]) ∧ Below w.heap.size w w' := by
  have hu28 := Tryz.underlying28
  have HB := Aside0.mk (Below.refl w.heap.size w)
  have H : ((emendref2_Split.f k a0).bind fun bt110 => (if bt110.2.2.2 = 0 then ((emendref2_Join.f k bt110.1 bt110.2.1 bt110.2.2.1).bind fun bt115 => (some (bt115.1, bt115.2))) else (some ((⟨#[]⟩ : ByteArray), bt110.2.2.2)))) = some (r1, r2) := h
  clear h
  replace H := Option.bind_eq_some_iff.mp H
  obtain ⟨⟨t110, t111, t112, t113⟩, A20, H⟩ := H
  replace H : (if t113 = 0 then ((emendref2_Join.f k t110 t111 t112).bind fun bt115 => (some (bt115.1, bt115.2))) else (some ((⟨#[]⟩ : ByteArray), t113))) = some (r1, r2) := H
  have A2 := Aside0.mk A20
  clear A20
  by_cases c3 : t113 = 0
  · rw [if_pos c3] at H
    have c3b0 : (t113 == 0) = true := beq_iff_eq.mpr c3
    have c3b1 : (t113 != 0) = false := bne_eq_false_iff_eq.mpr c3
    clear c3
    replace H := Option.bind_eq_some_iff.mp H
    obtain ⟨⟨t115, t116⟩, A40, H⟩ := H
    replace H : (some (t115, t116)) = some (r1, r2) := H
    have A4 := Aside0.mk A40
    clear A40
    simp only [Option.some.injEq, Prod.mk.injEq] at H
    obtain ⟨rfl, rfl⟩ := H
    go_enter Tryz.func11, Tryz.ntmps11
    go_wp2_with (first | ((with_reducible refine gate_callee (f := 9) rfl ?_); refine goesL_ (some 8) rfl rfl Tryz.func9 (by kernel_rfl) rfl #[.string a0] rfl (by (try simp only [List.map_toArray, List.map_cons, List.map_nil]); first | done | rfl | (simp only [List.length_drop, List.length_take]; rfl)) ?_; (with_reducible refine (emendref2_Split.calls k a0 t110 t111 t112 t113 _ A2.out).mono ?_); rintro e w5 ⟨rfl, hb⟩; refine ⟨_, rfl, ?_⟩; have n0_ := Aside0.mk (below_step (by repeat (first | (with_reducible first | exact HB.out | apply below_alloc | apply pw_below_drewN | apply below_drew1) | exact HB.out)) hb); clear HB; have HB := n0_; clear n0_; (try clear hb); (try clear hb2); (try clear hk); (try clear hi)) | ((with_reducible refine gate_dst (N := 4) rfl ?_); refine box_event ?hg (N := 4) ?hd (cs := #[.bool false, .string (⟨#[]⟩ : ByteArray), .int .i64 0]) (t := 28) ?hr ?_; (case hd => rfl); (case hg => rfl); (case hr => first | (go_simp; done) | (go_simp; rfl)); intro gb114 hg w6 hbox hb; have n0_ := Aside0.mk (below_step (by repeat (first | (with_reducible first | exact HB.out | apply below_alloc | apply pw_below_drewN | apply below_drew1) | exact HB.out)) hb); have n1_ := Aside0.mk (hbox); have n2_ := Aside0.mk ((by rw [hg]; exact (below_size (by repeat (first | (with_reducible first | exact HB.out | apply below_alloc | apply pw_below_drewN | apply below_drew1) | exact HB.out))) : w.heap.size ≤ gb114)); have n3_ := Aside0.mk ((by rw [hg]; exact (below_size (by repeat (first | (with_reducible first | exact HB.out | apply below_alloc | apply pw_below_drewN | apply below_drew1) | exact HB.out))) : w.heap.size ≤ gb114)); clear HB; have HB := n0_; have BK114 := n1_; have GW114 := n2_; have GE114 := n3_; clear n0_ n1_ n2_ n3_; clear hb hbox hg; have hcz7_0 : w6.cell? ⟨gb114, 0, none⟩ = some (.bool false) := (blk_cell BK114.out 0).trans rfl; have hcz7_1 : w6.cell? ⟨gb114, 1, none⟩ = some (.string (⟨#[]⟩ : ByteArray)) := (blk_cell BK114.out 1).trans rfl; have hcz7_2 : w6.cell? ⟨gb114, 2, none⟩ = some (.int .i64 0) := (blk_cell BK114.out 2).trans rfl; have hfz7_0 := blk_frozen BK114.out 0; have hfz7_1 := blk_frozen BK114.out 1; have hfz7_2 := blk_frozen BK114.out 2) | ((with_reducible refine gate_callee (f := 25) rfl ?_); refine goesL_ (some 15) rfl rfl Tryz.func25 (by kernel_rfl) rfl #[.agg #[.bool t110, .string t111, .int .i64 t112]] rfl (by (try simp only [List.map_toArray, List.map_cons, List.map_nil]); first | done | rfl | (simp only [List.length_drop, List.length_take]; rfl)) ?_; (with_reducible refine (emendref2_Join.calls k t110 t111 t112 t115 t116 _ A4.out).mono ?_); rintro e w8 ⟨rfl, hb⟩; refine ⟨_, rfl, ?_⟩; have n0_ := Aside0.mk (blk_below (g := gb114) (o := .cells #[.bool t110, .string t111, .int .i64 t112] 28 (0, 0)) (by (with_reducible repeat (first | refine blk_drewN ?_ _ | refine blk_drew ?_ | refine blk_alloc ?_ _)); refine blk_put (cs := #[.bool t110, .string t111, .int .i64 0]) ?_ 2 _ rfl; (with_reducible repeat (first | refine blk_drewN ?_ _ | refine blk_drew ?_ | refine blk_alloc ?_ _)); refine blk_put (cs := #[.bool t110, .string (⟨#[]⟩ : ByteArray), .int .i64 0]) ?_ 1 _ rfl; (with_reducible repeat (first | refine blk_drewN ?_ _ | refine blk_drew ?_ | refine blk_alloc ?_ _)); refine blk_put (cs := #[.bool false, .string (⟨#[]⟩ : ByteArray), .int .i64 0]) ?_ 0 _ rfl; (with_reducible repeat (first | refine blk_drewN ?_ _ | refine blk_drew ?_ | refine blk_alloc ?_ _)); exact BK114.out) hb); have n1_ := Aside0.mk (below_step (by repeat (first | (with_reducible first | exact HB.out | apply below_alloc | apply pw_below_drewN | apply below_drew1 | refine below_set ?_ GE114.out) | exact HB.out)) hb); clear BK114; clear HB; have BK114 := n0_; have HB := n1_; clear n0_ n1_; (try clear hb); (try clear hb2); (try clear hk); (try clear hi)))
    go_ret2
    exact ⟨by first | rfl | (simp [errW_none, errW_some] <;> rfl) | (simp [*, errW_none, errW_some] <;> rfl), by repeat (first | (with_reducible first | exact HB.out | apply below_alloc | apply pw_below_drewN | apply below_drew1 | refine below_set ?_ GE114.out) | exact HB.out)⟩
  · rw [if_neg c3] at H
    have c3b0 : (t113 == 0) = false := beq_eq_false_iff_ne.mpr c3
    have c3b1 : (t113 != 0) = true := bne_iff_ne.mpr c3
    simp only [Option.some.injEq, Prod.mk.injEq] at H
    obtain ⟨rfl, rfl⟩ := H
    go_enter Tryz.func11, Tryz.ntmps11
    go_wp2_with (first | ((with_reducible refine gate_callee (f := 9) rfl ?_); refine goesL_ (some 8) rfl rfl Tryz.func9 (by kernel_rfl) rfl #[.string a0] rfl (by (try simp only [List.map_toArray, List.map_cons, List.map_nil]); first | done | rfl | (simp only [List.length_drop, List.length_take]; rfl)) ?_; (with_reducible refine (emendref2_Split.calls k a0 t110 t111 t112 t113 _ A2.out).mono ?_); rintro e w9 ⟨rfl, hb⟩; refine ⟨_, rfl, ?_⟩; have n0_ := Aside0.mk (below_step (by repeat (first | (with_reducible first | exact HB.out | apply below_alloc | apply pw_below_drewN | apply below_drew1) | exact HB.out)) hb); clear HB; have HB := n0_; clear n0_; (try clear hb); (try clear hb2); (try clear hk); (try clear hi)) | ((with_reducible refine gate_dst (N := 4) rfl ?_); refine box_event ?hg (N := 4) ?hd (cs := #[.bool false, .string (⟨#[]⟩ : ByteArray), .int .i64 0]) (t := 28) ?hr ?_; (case hd => rfl); (case hg => rfl); (case hr => first | (go_simp; done) | (go_simp; rfl)); intro gb114 hg w10 hbox hb; have n0_ := Aside0.mk (below_step (by repeat (first | (with_reducible first | exact HB.out | apply below_alloc | apply pw_below_drewN | apply below_drew1) | exact HB.out)) hb); have n1_ := Aside0.mk (hbox); have n2_ := Aside0.mk ((by rw [hg]; exact (below_size (by repeat (first | (with_reducible first | exact HB.out | apply below_alloc | apply pw_below_drewN | apply below_drew1) | exact HB.out))) : w.heap.size ≤ gb114)); have n3_ := Aside0.mk ((by rw [hg]; exact (below_size (by repeat (first | (with_reducible first | exact HB.out | apply below_alloc | apply pw_below_drewN | apply below_drew1) | exact HB.out))) : w.heap.size ≤ gb114)); clear HB; have HB := n0_; have BK114 := n1_; have GW114 := n2_; have GE114 := n3_; clear n0_ n1_ n2_ n3_; clear hb hbox hg; have hcz11_0 : w10.cell? ⟨gb114, 0, none⟩ = some (.bool false) := (blk_cell BK114.out 0).trans rfl; have hcz11_1 : w10.cell? ⟨gb114, 1, none⟩ = some (.string (⟨#[]⟩ : ByteArray)) := (blk_cell BK114.out 1).trans rfl; have hcz11_2 : w10.cell? ⟨gb114, 2, none⟩ = some (.int .i64 0) := (blk_cell BK114.out 2).trans rfl; have hfz11_0 := blk_frozen BK114.out 0; have hfz11_1 := blk_frozen BK114.out 1; have hfz11_2 := blk_frozen BK114.out 2))
    go_ret2
    exact ⟨by first | rfl | (simp [errW_none, errW_some] <;> rfl) | (simp [*, errW_none, errW_some] <;> rfl), by repeat (first | (with_reducible first | exact HB.out | apply below_alloc | apply pw_below_drewN | apply below_drew1 | refine below_set ?_ GE114.out) | exact HB.out)⟩

attribute [local go_sem] run_str_gtr
/-! ### emendref2_size: function 34 -/
mutual
def emendref2_size.j0 : Nat → Int → Int → Bool → Bool → ByteArray → Int → Bool → ByteArray → Int → Option (Int)
  | 0, _, _, _, _, _, _, _, _, _ => none
  | k + 1, x5, x6, x19, x118000, x118001, x118002, x119000, x119001, x119002 => if x19 = true then (some 0) else (if x118001.toList = ([] : List UInt8) then (emendref2_size.j1 k x5 x6 true x118000 x118001 x118002 x119000 x119001 x119002) else (if x119001.toList = ([] : List UInt8) then (emendref2_size.j1 k x5 x6 false x118000 x118001 x118002 x119000 x119001 x119002) else (emendref2_size.j1 k x5 x6 (decide (x5 < x6)) x118000 x118001 x118002 x119000 x119001 x119002)))
def emendref2_size.j1 : Nat → Int → Int → Bool → Bool → ByteArray → Int → Bool → ByteArray → Int → Option (Int)
  | 0, _, _, _, _, _, _, _, _, _ => none
  | k + 1, x5, x6, x28, x118000, x118001, x118002, x119000, x119001, x119002 => if x28 = true then (some (-1)) else (if x119001.toList = ([] : List UInt8) then (emendref2_size.j2 k true x118000 x118001 x118002 x119000 x119001 x119002) else (emendref2_size.j2 k (decide (x5 > x6)) x118000 x118001 x118002 x119000 x119001 x119002))
def emendref2_size.j2 : Nat → Bool → Bool → ByteArray → Int → Bool → ByteArray → Int → Option (Int)
  | 0, _, _, _, _, _, _, _ => none
  | k + 1, x42, x118000, x118001, x118002, x119000, x119001, x119002 => if x42 = true then (some 1) else (if (Op.bytesLess x118001.toList x119001.toList) = true then (some (-1)) else (if (Op.bytesLess x119001.toList x118001.toList) = true then (some 1) else (some 0)))
end
def emendref2_size.f (k : Nat) (a0_0 : Bool) (a0_1 : ByteArray) (a0_2 : Int) (a1_0 : Bool) (a1_1 : ByteArray) (a1_2 : Int) : Option (Int) := if a0_1.toList = ([] : List UInt8) then (emendref2_size.j0 k (wrap64 ((a0_1.size : Int) + a0_2)) (wrap64 ((a1_1.size : Int) + a1_2)) (a1_1.toList == ([] : List UInt8)) a0_0 a0_1 a0_2 a1_0 a1_1 a1_2) else (emendref2_size.j0 k (wrap64 ((a0_1.size : Int) + a0_2)) (wrap64 ((a1_1.size : Int) + a1_2)) false a0_0 a0_1 a0_2 a1_0 a1_1 a1_2)
theorem emendref2_size.mono_l : ∀ k, (∀ y0 y1 y2 y3 y4 y5 y6 y7 y8, LeO (emendref2_size.j0 k y0 y1 y2 y3 y4 y5 y6 y7 y8) (emendref2_size.j0 (k + 1) y0 y1 y2 y3 y4 y5 y6 y7 y8)) ∧ (∀ y0 y1 y2 y3 y4 y5 y6 y7 y8, LeO (emendref2_size.j1 k y0 y1 y2 y3 y4 y5 y6 y7 y8) (emendref2_size.j1 (k + 1) y0 y1 y2 y3 y4 y5 y6 y7 y8)) ∧ (∀ y0 y1 y2 y3 y4 y5 y6, LeO (emendref2_size.j2 k y0 y1 y2 y3 y4 y5 y6) (emendref2_size.j2 (k + 1) y0 y1 y2 y3 y4 y5 y6))
  | 0 => ⟨fun _ _ _ _ _ _ _ _ _ r h => by simp [emendref2_size.j0] at h, fun _ _ _ _ _ _ _ _ _ r h => by simp [emendref2_size.j1] at h, fun _ _ _ _ _ _ _ r h => by simp [emendref2_size.j2] at h⟩
  | k + 1 => by
    obtain ⟨ih0, ih1, ih2⟩ := emendref2_size.mono_l k
    refine ⟨?_, ?_, ?_⟩
    · intro y0 y1 y2 y3 y4 y5 y6 y7 y8
      unfold emendref2_size.j0
      repeat' first
      | (with_reducible exact ih0 _ _ _ _ _ _ _ _ _)
      | (with_reducible exact ih1 _ _ _ _ _ _ _ _ _)
      | (with_reducible exact ih2 _ _ _ _ _ _ _)
      | (with_reducible exact LeO.refl _)
      | (with_reducible exact LeO.none _)
      | (with_reducible refine LeO.ite ?_ ?_)
      | (with_reducible refine LeO.bind ?_ (fun _ => ?_))
      | exact ih0 _ _ _ _ _ _ _ _ _
      | exact ih1 _ _ _ _ _ _ _ _ _
      | exact ih2 _ _ _ _ _ _ _
      | exact LeO.none _
      | refine LeO.ite ?_ ?_
      | refine LeO.bind ?_ (fun _ => ?_)
    · intro y0 y1 y2 y3 y4 y5 y6 y7 y8
      unfold emendref2_size.j1
      repeat' first
      | (with_reducible exact ih0 _ _ _ _ _ _ _ _ _)
      | (with_reducible exact ih1 _ _ _ _ _ _ _ _ _)
      | (with_reducible exact ih2 _ _ _ _ _ _ _)
      | (with_reducible exact LeO.refl _)
      | (with_reducible exact LeO.none _)
      | (with_reducible refine LeO.ite ?_ ?_)
      | (with_reducible refine LeO.bind ?_ (fun _ => ?_))
      | exact ih0 _ _ _ _ _ _ _ _ _
      | exact ih1 _ _ _ _ _ _ _ _ _
      | exact ih2 _ _ _ _ _ _ _
      | exact LeO.none _
      | refine LeO.ite ?_ ?_
      | refine LeO.bind ?_ (fun _ => ?_)
    · intro y0 y1 y2 y3 y4 y5 y6
      unfold emendref2_size.j2
      repeat' first
      | (with_reducible exact ih0 _ _ _ _ _ _ _ _ _)
      | (with_reducible exact ih1 _ _ _ _ _ _ _ _ _)
      | (with_reducible exact ih2 _ _ _ _ _ _ _)
      | (with_reducible exact LeO.refl _)
      | (with_reducible exact LeO.none _)
      | (with_reducible refine LeO.ite ?_ ?_)
      | (with_reducible refine LeO.bind ?_ (fun _ => ?_))
      | exact ih0 _ _ _ _ _ _ _ _ _
      | exact ih1 _ _ _ _ _ _ _ _ _
      | exact ih2 _ _ _ _ _ _ _
      | exact LeO.none _
      | refine LeO.ite ?_ ?_
      | refine LeO.bind ?_ (fun _ => ?_)
theorem emendref2_size.mono : ∀ a0 a1 a2 a3 a4 a5 k, LeO (emendref2_size.f k a0 a1 a2 a3 a4 a5) (emendref2_size.f (k + 1) a0 a1 a2 a3 a4 a5) := by
  intro a0 a1 a2 a3 a4 a5 k
  obtain ⟨ih0, ih1, ih2⟩ := emendref2_size.mono_l k
  unfold emendref2_size.f
  repeat' first
      | (with_reducible exact ih0 _ _ _ _ _ _ _ _ _)
      | (with_reducible exact ih1 _ _ _ _ _ _ _ _ _)
      | (with_reducible exact ih2 _ _ _ _ _ _ _)
      | (with_reducible exact LeO.refl _)
      | (with_reducible exact LeO.none _)
      | (with_reducible refine LeO.ite ?_ ?_)
      | (with_reducible refine LeO.bind ?_ (fun _ => ?_))
      | exact ih0 _ _ _ _ _ _ _ _ _
      | exact ih1 _ _ _ _ _ _ _ _ _
      | exact ih2 _ _ _ _ _ _ _
      | exact LeO.none _
      | refine LeO.ite ?_ ?_
      | refine LeO.bind ?_ (fun _ => ?_)
set_option maxHeartbeats 8000000 in
set_option maxRecDepth 100000 in
theorem emendref2_size.calls (k : Nat) (a0_0 : Bool) (a0_1 : ByteArray) (a0_2 : Int) (a1_0 : Bool) (a1_1 : ByteArray) (a1_2 : Int) (r : Int) (w : World) (h : emendref2_size.f k a0_0 a0_1 a0_2 a1_0 a1_1 a1_2 = some r) :
    Calls Tryz.prog 34 #[.agg #[.bool a0_0, .string a0_1, .int .i64 a0_2], .agg #[.bool a1_0, .string a1_1, .int .i64 a1_2]] w fun e w' => e = .returned (.int .i64 r) ∧ Below w.heap.size w w' := by
  have hu28 := Tryz.underlying28
  have HB := Aside0.mk (Below.refl w.heap.size w)
  have H : (if a0_1.toList = ([] : List UInt8) then (emendref2_size.j0 k (wrap64 ((a0_1.size : Int) + a0_2)) (wrap64 ((a1_1.size : Int) + a1_2)) (a1_1.toList == ([] : List UInt8)) a0_0 a0_1 a0_2 a1_0 a1_1 a1_2) else (emendref2_size.j0 k (wrap64 ((a0_1.size : Int) + a0_2)) (wrap64 ((a1_1.size : Int) + a1_2)) false a0_0 a0_1 a0_2 a1_0 a1_1 a1_2)) = some r := h
  clear h
  have HC3 := Aside0.mk H
  clear H
  go_enter Tryz.func34, Tryz.ntmps34
  go_upto_region 3 with (first | ((with_reducible refine gate_dst (N := 2) rfl ?_); refine box_event ?hg (N := 2) ?hd (cs := #[.bool a0_0, .string a0_1, .int .i64 a0_2]) (t := 28) ?hr ?_; (case hd => rfl); (case hg => rfl); (case hr => first | (go_simp; done) | (go_simp; rfl)); intro gb117 hg w4 hbox hb; have n0_ := Aside0.mk (below_step (by repeat (first | (with_reducible first | exact HB.out | apply below_alloc | apply pw_below_drewN | apply below_drew1) | exact HB.out)) hb); have n1_ := Aside0.mk (hbox); have n2_ := Aside0.mk ((by rw [hg]; exact (below_size (by repeat (first | (with_reducible first | exact HB.out | apply below_alloc | apply pw_below_drewN | apply below_drew1) | exact HB.out))) : w.heap.size ≤ gb117)); have n3_ := Aside0.mk ((by rw [hg]; exact (below_size (by repeat (first | (with_reducible first | exact HB.out | apply below_alloc | apply pw_below_drewN | apply below_drew1) | exact HB.out))) : w.heap.size ≤ gb117)); clear HB; have HB := n0_; have BK117 := n1_; have GW117 := n2_; have GE117 := n3_; clear n0_ n1_ n2_ n3_; clear hb hbox hg) | ((with_reducible refine gate_dst (N := 3) rfl ?_); refine box_event ?hg (N := 3) ?hd (cs := #[.bool a1_0, .string a1_1, .int .i64 a1_2]) (t := 28) ?hr ?_; (case hd => rfl); (case hg => rfl); (case hr => first | (go_simp; done) | (go_simp; rfl)); intro gb118 hg w5 hbox hb; have n0_ := Aside0.mk (blk_below (g := gb117) (o := .cells #[.bool a0_0, .string a0_1, .int .i64 a0_2] 28 (0, 0)) (by (with_reducible repeat (first | refine blk_drewN ?_ _ | refine blk_drew ?_ | refine blk_alloc ?_ _)); exact BK117.out) hb); have n1_ := Aside0.mk (below_step (by repeat (first | (with_reducible first | exact HB.out | apply below_alloc | apply pw_below_drewN | apply below_drew1 | refine below_set ?_ GE117.out) | exact HB.out)) hb); have n2_ := Aside0.mk (hbox); have n3_ := Aside0.mk ((by rw [hg]; exact (below_size (by repeat (first | (with_reducible first | exact HB.out | apply below_alloc | apply pw_below_drewN | apply below_drew1 | refine below_set ?_ GE117.out) | exact HB.out))) : w.heap.size ≤ gb118)); have n4_ := Aside0.mk ((by rw [hg]; exact (below_size (by repeat (first | (with_reducible first | exact HB.out | apply below_alloc | apply pw_below_drewN | apply below_drew1 | refine below_set ?_ GE117.out) | exact HB.out))) : w.heap.size ≤ gb118)); have n5_ := Aside0.mk ((by rw [hg]; exact Nat.ne_of_lt (blk_lt (g := gb117) (o := .cells #[.bool a0_0, .string a0_1, .int .i64 a0_2] 28 (0, 0)) (by (with_reducible repeat (first | refine blk_drewN ?_ _ | refine blk_drew ?_ | refine blk_alloc ?_ _)); exact BK117.out)) : gb117 ≠ gb118)); have n6_ := Aside0.mk ((by rw [hg]; exact Nat.ne_of_gt (blk_lt (g := gb117) (o := .cells #[.bool a0_0, .string a0_1, .int .i64 a0_2] 28 (0, 0)) (by (with_reducible repeat (first | refine blk_drewN ?_ _ | refine blk_drew ?_ | refine blk_alloc ?_ _)); exact BK117.out)) : gb118 ≠ gb117)); clear BK117; clear HB; have BK117 := n0_; have HB := n1_; have BK118 := n2_; have GW118 := n3_; have GE118 := n4_; have NB117_118 := n5_; have NB118_117 := n6_; clear n0_ n1_ n2_ n3_ n4_ n5_ n6_; clear hb hbox hg; have hnb6 := NB117_118.out; have hnc6 := NB118_117.out; have hcz7_0 : w5.cell? ⟨gb117, 0, none⟩ = some (.bool a0_0) := (blk_cell BK117.out 0).trans rfl; have hcz7_1 : w5.cell? ⟨gb117, 1, none⟩ = some (.string a0_1) := (blk_cell BK117.out 1).trans rfl; have hcz7_2 : w5.cell? ⟨gb117, 2, none⟩ = some (.int .i64 a0_2) := (blk_cell BK117.out 2).trans rfl; have hfz7_0 := blk_frozen BK117.out 0; have hfz7_1 := blk_frozen BK117.out 1; have hfz7_2 := blk_frozen BK117.out 2; have hcz8_0 : w5.cell? ⟨gb118, 0, none⟩ = some (.bool a1_0) := (blk_cell BK118.out 0).trans rfl; have hcz8_1 : w5.cell? ⟨gb118, 1, none⟩ = some (.string a1_1) := (blk_cell BK118.out 1).trans rfl; have hcz8_2 : w5.cell? ⟨gb118, 2, none⟩ = some (.int .i64 a1_2) := (blk_cell BK118.out 2).trans rfl; have hfz8_0 := blk_frozen BK118.out 0; have hfz8_1 := blk_frozen BK118.out 1; have hfz8_2 := blk_frozen BK118.out 2))
  (try simp only [Act.put, List.setIfInBounds_toArray, List.set_cons_zero, List.set_cons_succ])
  go_cut [19] (fun v19 wc => ∃ (kq : Nat) (x19_2 : Bool), v19 = .bool x19_2 ∧ Aside0 (emendref2_size.j0 kq (wrap64 ((a0_1.size : Int) + a0_2)) (wrap64 ((a1_1.size : Int) + a1_2)) x19_2 a0_0 a0_1 a0_2 a1_0 a1_1 a1_2 = some r) ∧ Aside0 (kq ≤ k) ∧ Aside0 (wc.heap[gb117]? = some (.cells #[.bool a0_0, .string a0_1, .int .i64 a0_2] 28 (0, 0))) ∧ Aside0 (wc.heap[gb118]? = some (.cells #[.bool a1_0, .string a1_1, .int .i64 a1_2] 28 (0, 0))) ∧ Aside0 (Below w.heap.size w wc))
  case first =>
    have H := HC3.out
    clear HC3
    by_cases c9 : a0_1.toList = ([] : List UInt8)
    · rw [if_pos c9] at H
      have c9b0 : (a0_1.toList == ([] : List UInt8)) = true := beq_iff_eq.mpr c9
      have c9b1 : (a0_1.toList != ([] : List UInt8)) = false := bne_eq_false_iff_eq.mpr c9
      clear c9
      (first | rw [c9b0] | (simp only [i64_w, i32_w]; rw [c9b0]) | skip)
      have H' := Aside0.mk H
      clear H
      have hnb10 := NB117_118.out
      have hnc10 := NB118_117.out
      have hcz11_0 : w5.cell? ⟨gb117, 0, none⟩ = some (.bool a0_0) := (blk_cell BK117.out 0).trans rfl
      have hcz11_1 : w5.cell? ⟨gb117, 1, none⟩ = some (.string a0_1) := (blk_cell BK117.out 1).trans rfl
      have hcz11_2 : w5.cell? ⟨gb117, 2, none⟩ = some (.int .i64 a0_2) := (blk_cell BK117.out 2).trans rfl
      have hfz11_0 := blk_frozen BK117.out 0
      have hfz11_1 := blk_frozen BK117.out 1
      have hfz11_2 := blk_frozen BK117.out 2
      have hcz12_0 : w5.cell? ⟨gb118, 0, none⟩ = some (.bool a1_0) := (blk_cell BK118.out 0).trans rfl
      have hcz12_1 : w5.cell? ⟨gb118, 1, none⟩ = some (.string a1_1) := (blk_cell BK118.out 1).trans rfl
      have hcz12_2 : w5.cell? ⟨gb118, 2, none⟩ = some (.int .i64 a1_2) := (blk_cell BK118.out 2).trans rfl
      have hfz12_0 := blk_frozen BK118.out 0
      have hfz12_1 := blk_frozen BK118.out 1
      have hfz12_2 := blk_frozen BK118.out 2
      go_wp2
      go_meet
      case rel => exact ⟨_, ((a1_1.toList == ([] : List UInt8))), (by first | rfl | (simp; done) | (simp [*]; done) | (congr 1; unfold wrap64; omega)), H', ⟨by first | omega | exact Nat.le_refl _⟩, ⟨by (with_reducible repeat (first | refine blk_drewN ?_ _ | refine blk_drew ?_ | refine blk_alloc ?_ _)); exact BK117.out⟩, ⟨by (with_reducible repeat (first | refine blk_drewN ?_ _ | refine blk_drew ?_ | refine blk_alloc ?_ _)); exact BK118.out⟩, ⟨by repeat (first | (with_reducible first | exact HB.out | apply below_alloc | apply pw_below_drewN | apply below_drew1 | refine below_set ?_ GE117.out | refine below_set ?_ GE118.out) | exact HB.out)⟩⟩
    · rw [if_neg c9] at H
      have c9b0 : (a0_1.toList == ([] : List UInt8)) = false := beq_eq_false_iff_ne.mpr c9
      have c9b1 : (a0_1.toList != ([] : List UInt8)) = true := bne_iff_ne.mpr c9
      (first | rw [c9b0] | (simp only [i64_w, i32_w]; rw [c9b0]) | skip)
      have H' := Aside0.mk H
      clear H
      have hnb13 := NB117_118.out
      have hnc13 := NB118_117.out
      have hcz14_0 : w5.cell? ⟨gb117, 0, none⟩ = some (.bool a0_0) := (blk_cell BK117.out 0).trans rfl
      have hcz14_1 : w5.cell? ⟨gb117, 1, none⟩ = some (.string a0_1) := (blk_cell BK117.out 1).trans rfl
      have hcz14_2 : w5.cell? ⟨gb117, 2, none⟩ = some (.int .i64 a0_2) := (blk_cell BK117.out 2).trans rfl
      have hfz14_0 := blk_frozen BK117.out 0
      have hfz14_1 := blk_frozen BK117.out 1
      have hfz14_2 := blk_frozen BK117.out 2
      go_wp2
      go_meet
      case rel => exact ⟨_, (false), (by first | rfl | (simp; done) | (simp [*]; done) | (congr 1; unfold wrap64; omega)), H', ⟨by first | omega | exact Nat.le_refl _⟩, ⟨by (with_reducible repeat (first | refine blk_drewN ?_ _ | refine blk_drew ?_ | refine blk_alloc ?_ _)); exact BK117.out⟩, ⟨by (with_reducible repeat (first | refine blk_drewN ?_ _ | refine blk_drew ?_ | refine blk_alloc ?_ _)); exact BK118.out⟩, ⟨by repeat (first | (with_reducible first | exact HB.out | apply below_alloc | apply pw_below_drewN | apply below_drew1 | refine below_set ?_ GE117.out | refine below_set ?_ GE118.out) | exact HB.out)⟩⟩
  case rest =>
    clear HC3
    try clear c1
    try clear p2
    try clear c3
    try clear c6
    try clear p6
    try clear c9
    try clear c9b0
    try clear c9b1
    try clear c10
    try clear c13
    try clear hcz11_0
    try clear hcz11_1
    try clear hcz11_2
    try clear hcz12_0
    try clear hcz12_1
    try clear hcz12_2
    try clear hcz14_0
    try clear hcz14_1
    try clear hcz14_2
    try clear hcz7_0
    try clear hcz7_1
    try clear hcz7_2
    try clear hcz8_0
    try clear hcz8_1
    try clear hcz8_2
    try clear hfz11_0
    try clear hfz11_1
    try clear hfz11_2
    try clear hfz12_0
    try clear hfz12_1
    try clear hfz12_2
    try clear hfz14_0
    try clear hfz14_1
    try clear hfz14_2
    try clear hfz7_0
    try clear hfz7_1
    try clear hfz7_2
    try clear hfz8_0
    try clear hfz8_1
    try clear hfz8_2
    obtain ⟨kq, x19_2, rfl, HA, HJ2, BK117, BK118, HB⟩ := hcut
    cases kq with
    | zero => exact absurd HA.out (by simp [emendref2_size.j0])
    | succ kj2 =>
      have H := HA.out
      clear HA
      simp only [emendref2_size.j0] at H
      by_cases c15 : x19_2 = true
      · subst c15
        have H1 : (some 0) = some r := by rw [if_pos rfl] at H; exact H
        clear H
        have H := H1
        clear H1
        obtain rfl := Option.some.inj H
        go_wp2
        go_ret
        exact ⟨by first | rfl | (simp [errW_none, errW_some] <;> rfl) | (simp [*, errW_none, errW_some] <;> rfl), by repeat (first | (with_reducible first | exact HB.out | apply below_alloc | apply pw_below_drewN | apply below_drew1 | refine below_set ?_ GE117.out | refine below_set ?_ GE118.out) | exact HB.out)⟩
      · replace c15 := Bool.eq_false_iff.mpr c15
        subst c15
        have H1 : (if a0_1.toList = ([] : List UInt8) then (emendref2_size.j1 kj2 (wrap64 ((a0_1.size : Int) + a0_2)) (wrap64 ((a1_1.size : Int) + a1_2)) true a0_0 a0_1 a0_2 a1_0 a1_1 a1_2) else (if a1_1.toList = ([] : List UInt8) then (emendref2_size.j1 kj2 (wrap64 ((a0_1.size : Int) + a0_2)) (wrap64 ((a1_1.size : Int) + a1_2)) false a0_0 a0_1 a0_2 a1_0 a1_1 a1_2) else (emendref2_size.j1 kj2 (wrap64 ((a0_1.size : Int) + a0_2)) (wrap64 ((a1_1.size : Int) + a1_2)) (decide ((wrap64 ((a0_1.size : Int) + a0_2)) < (wrap64 ((a1_1.size : Int) + a1_2)))) a0_0 a0_1 a0_2 a1_0 a1_1 a1_2))) = some r := by rw [if_neg (show ¬ (false = true) by decide)] at H; exact H
        clear H
        have H := H1
        clear H1
        have HC16 := Aside0.mk H
        clear H
        go_upto_region 5 with (fail)
        go_cut [28] (fun v28 wc => ∃ (kq : Nat) (x28_15 : Bool), v28 = .bool x28_15 ∧ Aside0 (emendref2_size.j1 kq (wrap64 ((a0_1.size : Int) + a0_2)) (wrap64 ((a1_1.size : Int) + a1_2)) x28_15 a0_0 a0_1 a0_2 a1_0 a1_1 a1_2 = some r) ∧ Aside0 (kq ≤ kj2) ∧ Aside0 (wc.heap[gb117]? = some (.cells #[.bool a0_0, .string a0_1, .int .i64 a0_2] 28 (0, 0))) ∧ Aside0 (wc.heap[gb118]? = some (.cells #[.bool a1_0, .string a1_1, .int .i64 a1_2] 28 (0, 0))) ∧ Aside0 (Below w.heap.size w wc))
        case first =>
          have H := HC16.out
          clear HC16
          by_cases c17 : a0_1.toList = ([] : List UInt8)
          · rw [if_pos c17] at H
            have c17b0 : (a0_1.toList == ([] : List UInt8)) = true := beq_iff_eq.mpr c17
            have c17b1 : (a0_1.toList != ([] : List UInt8)) = false := bne_eq_false_iff_eq.mpr c17
            clear c17
            (first | rw [c17b0] | (simp only [i64_w, i32_w]; rw [c17b0]) | skip)
            have H' := Aside0.mk H
            clear H
            have hnb18 := NB117_118.out
            have hnc18 := NB118_117.out
            have hcz19_0 : wc.cell? ⟨gb117, 0, none⟩ = some (.bool a0_0) := (blk_cell BK117.out 0).trans rfl
            have hcz19_1 : wc.cell? ⟨gb117, 1, none⟩ = some (.string a0_1) := (blk_cell BK117.out 1).trans rfl
            have hcz19_2 : wc.cell? ⟨gb117, 2, none⟩ = some (.int .i64 a0_2) := (blk_cell BK117.out 2).trans rfl
            have hfz19_0 := blk_frozen BK117.out 0
            have hfz19_1 := blk_frozen BK117.out 1
            have hfz19_2 := blk_frozen BK117.out 2
            go_wp2
            go_meet
            case rel => exact ⟨_, (true), (by first | rfl | (simp; done) | (simp [*]; done) | (congr 1; unfold wrap64; omega)), H', ⟨by have := HJ2.out; first | omega | exact Nat.le_refl _⟩, ⟨by (with_reducible repeat (first | refine blk_drewN ?_ _ | refine blk_drew ?_ | refine blk_alloc ?_ _)); exact BK117.out⟩, ⟨by (with_reducible repeat (first | refine blk_drewN ?_ _ | refine blk_drew ?_ | refine blk_alloc ?_ _)); exact BK118.out⟩, ⟨by repeat (first | (with_reducible first | exact HB.out | apply below_alloc | apply pw_below_drewN | apply below_drew1 | refine below_set ?_ GE117.out | refine below_set ?_ GE118.out) | exact HB.out)⟩⟩
          · rw [if_neg c17] at H
            have c17b0 : (a0_1.toList == ([] : List UInt8)) = false := beq_eq_false_iff_ne.mpr c17
            have c17b1 : (a0_1.toList != ([] : List UInt8)) = true := bne_iff_ne.mpr c17
            (first | rw [c17b0] | (simp only [i64_w, i32_w]; rw [c17b0]) | skip)
            by_cases c20 : a1_1.toList = ([] : List UInt8)
            · rw [if_pos c20] at H
              have c20b0 : (a1_1.toList == ([] : List UInt8)) = true := beq_iff_eq.mpr c20
              have c20b1 : (a1_1.toList != ([] : List UInt8)) = false := bne_eq_false_iff_eq.mpr c20
              clear c20
              have H' := Aside0.mk H
              clear H
              have hnb21 := NB117_118.out
              have hnc21 := NB118_117.out
              have hcz22_0 : wc.cell? ⟨gb117, 0, none⟩ = some (.bool a0_0) := (blk_cell BK117.out 0).trans rfl
              have hcz22_1 : wc.cell? ⟨gb117, 1, none⟩ = some (.string a0_1) := (blk_cell BK117.out 1).trans rfl
              have hcz22_2 : wc.cell? ⟨gb117, 2, none⟩ = some (.int .i64 a0_2) := (blk_cell BK117.out 2).trans rfl
              have hfz22_0 := blk_frozen BK117.out 0
              have hfz22_1 := blk_frozen BK117.out 1
              have hfz22_2 := blk_frozen BK117.out 2
              have hcz23_0 : wc.cell? ⟨gb118, 0, none⟩ = some (.bool a1_0) := (blk_cell BK118.out 0).trans rfl
              have hcz23_1 : wc.cell? ⟨gb118, 1, none⟩ = some (.string a1_1) := (blk_cell BK118.out 1).trans rfl
              have hcz23_2 : wc.cell? ⟨gb118, 2, none⟩ = some (.int .i64 a1_2) := (blk_cell BK118.out 2).trans rfl
              have hfz23_0 := blk_frozen BK118.out 0
              have hfz23_1 := blk_frozen BK118.out 1
              have hfz23_2 := blk_frozen BK118.out 2
              go_wp2
              go_meet
              case rel => exact ⟨_, (false), (by first | rfl | (simp; done) | (simp [*]; done) | (congr 1; unfold wrap64; omega)), H', ⟨by have := HJ2.out; first | omega | exact Nat.le_refl _⟩, ⟨by (with_reducible repeat (first | refine blk_drewN ?_ _ | refine blk_drew ?_ | refine blk_alloc ?_ _)); exact BK117.out⟩, ⟨by (with_reducible repeat (first | refine blk_drewN ?_ _ | refine blk_drew ?_ | refine blk_alloc ?_ _)); exact BK118.out⟩, ⟨by repeat (first | (with_reducible first | exact HB.out | apply below_alloc | apply pw_below_drewN | apply below_drew1 | refine below_set ?_ GE117.out | refine below_set ?_ GE118.out) | exact HB.out)⟩⟩
            · rw [if_neg c20] at H
              have c20b0 : (a1_1.toList == ([] : List UInt8)) = false := beq_eq_false_iff_ne.mpr c20
              have c20b1 : (a1_1.toList != ([] : List UInt8)) = true := bne_iff_ne.mpr c20
              have H' := Aside0.mk H
              clear H
              have hnb24 := NB117_118.out
              have hnc24 := NB118_117.out
              have hcz25_0 : wc.cell? ⟨gb117, 0, none⟩ = some (.bool a0_0) := (blk_cell BK117.out 0).trans rfl
              have hcz25_1 : wc.cell? ⟨gb117, 1, none⟩ = some (.string a0_1) := (blk_cell BK117.out 1).trans rfl
              have hcz25_2 : wc.cell? ⟨gb117, 2, none⟩ = some (.int .i64 a0_2) := (blk_cell BK117.out 2).trans rfl
              have hfz25_0 := blk_frozen BK117.out 0
              have hfz25_1 := blk_frozen BK117.out 1
              have hfz25_2 := blk_frozen BK117.out 2
              have hcz26_0 : wc.cell? ⟨gb118, 0, none⟩ = some (.bool a1_0) := (blk_cell BK118.out 0).trans rfl
              have hcz26_1 : wc.cell? ⟨gb118, 1, none⟩ = some (.string a1_1) := (blk_cell BK118.out 1).trans rfl
              have hcz26_2 : wc.cell? ⟨gb118, 2, none⟩ = some (.int .i64 a1_2) := (blk_cell BK118.out 2).trans rfl
              have hfz26_0 := blk_frozen BK118.out 0
              have hfz26_1 := blk_frozen BK118.out 1
              have hfz26_2 := blk_frozen BK118.out 2
              go_wp2
              go_meet
              case rel => exact ⟨_, (decide ((wrap64 ((a0_1.size : Int) + a0_2)) < (wrap64 ((a1_1.size : Int) + a1_2)))), (by first | rfl | (simp; done) | (simp [*]; done) | (congr 1; unfold wrap64; omega)), H', ⟨by have := HJ2.out; first | omega | exact Nat.le_refl _⟩, ⟨by (with_reducible repeat (first | refine blk_drewN ?_ _ | refine blk_drew ?_ | refine blk_alloc ?_ _)); exact BK117.out⟩, ⟨by (with_reducible repeat (first | refine blk_drewN ?_ _ | refine blk_drew ?_ | refine blk_alloc ?_ _)); exact BK118.out⟩, ⟨by repeat (first | (with_reducible first | exact HB.out | apply below_alloc | apply pw_below_drewN | apply below_drew1 | refine below_set ?_ GE117.out | refine below_set ?_ GE118.out) | exact HB.out)⟩⟩
        case rest =>
          clear HC16
          try clear c1
          try clear c2
          try clear p2
          try clear c3
          try clear c6
          try clear p6
          try clear c9
          try clear c9b0
          try clear c9b1
          try clear c10
          try clear c13
          try clear c15
          try clear c17
          try clear c17b0
          try clear c17b1
          try clear c18
          try clear c20
          try clear c20b0
          try clear c20b1
          try clear c21
          try clear c24
          try clear hcz11_0
          try clear hcz11_1
          try clear hcz11_2
          try clear hcz12_0
          try clear hcz12_1
          try clear hcz12_2
          try clear hcz14_0
          try clear hcz14_1
          try clear hcz14_2
          try clear hcz19_0
          try clear hcz19_1
          try clear hcz19_2
          try clear hcz22_0
          try clear hcz22_1
          try clear hcz22_2
          try clear hcz23_0
          try clear hcz23_1
          try clear hcz23_2
          try clear hcz25_0
          try clear hcz25_1
          try clear hcz25_2
          try clear hcz26_0
          try clear hcz26_1
          try clear hcz26_2
          try clear hcz7_0
          try clear hcz7_1
          try clear hcz7_2
          try clear hcz8_0
          try clear hcz8_1
          try clear hcz8_2
          try clear hfz11_0
          try clear hfz11_1
          try clear hfz11_2
          try clear hfz12_0
          try clear hfz12_1
          try clear hfz12_2
          try clear hfz14_0
          try clear hfz14_1
          try clear hfz14_2
          try clear hfz19_0
          try clear hfz19_1
          try clear hfz19_2
          try clear hfz22_0
          try clear hfz22_1
          try clear hfz22_2
          try clear hfz23_0
          try clear hfz23_1
          try clear hfz23_2
          try clear hfz25_0
          try clear hfz25_1
          try clear hfz25_2
          try clear hfz26_0
          try clear hfz26_1
          try clear hfz26_2
          try clear hfz7_0
          try clear hfz7_1
          try clear hfz7_2
          try clear hfz8_0
          try clear hfz8_1
          try clear hfz8_2
          try clear p2
          try clear p6
          obtain ⟨kq, x28_15, rfl, HA, HJ15, BK117, BK118, HB⟩ := hcut
          cases kq with
          | zero => exact absurd HA.out (by simp [emendref2_size.j1])
          | succ kj15 =>
            have H := HA.out
            clear HA
            simp only [emendref2_size.j1] at H
            by_cases c27 : x28_15 = true
            · subst c27
              have H1 : (some (-1)) = some r := by rw [if_pos rfl] at H; exact H
              clear H
              have H := H1
              clear H1
              obtain rfl := Option.some.inj H
              go_wp2
              go_ret
              exact ⟨by first | rfl | (simp [errW_none, errW_some] <;> rfl) | (simp [*, errW_none, errW_some] <;> rfl), by repeat (first | (with_reducible first | exact HB.out | apply below_alloc | apply pw_below_drewN | apply below_drew1 | refine below_set ?_ GE117.out | refine below_set ?_ GE118.out) | exact HB.out)⟩
            · replace c27 := Bool.eq_false_iff.mpr c27
              subst c27
              have H1 : (if a1_1.toList = ([] : List UInt8) then (emendref2_size.j2 kj15 true a0_0 a0_1 a0_2 a1_0 a1_1 a1_2) else (emendref2_size.j2 kj15 (decide ((wrap64 ((a0_1.size : Int) + a0_2)) > (wrap64 ((a1_1.size : Int) + a1_2)))) a0_0 a0_1 a0_2 a1_0 a1_1 a1_2)) = some r := by rw [if_neg (show ¬ (false = true) by decide)] at H; exact H
              clear H
              have H := H1
              clear H1
              have HC28 := Aside0.mk H
              clear H
              go_upto_region 7 with (fail)
              go_cut [42] (fun v42 wc => ∃ (kq : Nat) (x42_27 : Bool), v42 = .bool x42_27 ∧ Aside0 (emendref2_size.j2 kq x42_27 a0_0 a0_1 a0_2 a1_0 a1_1 a1_2 = some r) ∧ Aside0 (kq ≤ kj15) ∧ Aside0 (wc.heap[gb117]? = some (.cells #[.bool a0_0, .string a0_1, .int .i64 a0_2] 28 (0, 0))) ∧ Aside0 (wc.heap[gb118]? = some (.cells #[.bool a1_0, .string a1_1, .int .i64 a1_2] 28 (0, 0))) ∧ Aside0 (Below w.heap.size w wc))
              case first =>
                have H := HC28.out
                clear HC28
                by_cases c29 : a1_1.toList = ([] : List UInt8)
                · rw [if_pos c29] at H
                  have c29b0 : (a1_1.toList == ([] : List UInt8)) = true := beq_iff_eq.mpr c29
                  have c29b1 : (a1_1.toList != ([] : List UInt8)) = false := bne_eq_false_iff_eq.mpr c29
                  clear c29
                  (first | rw [c29b0] | (simp only [i64_w, i32_w]; rw [c29b0]) | skip)
                  have H' := Aside0.mk H
                  clear H
                  have hnb30 := NB118_117.out
                  have hnc30 := NB117_118.out
                  have hcz31_0 : wc.cell? ⟨gb118, 0, none⟩ = some (.bool a1_0) := (blk_cell BK118.out 0).trans rfl
                  have hcz31_1 : wc.cell? ⟨gb118, 1, none⟩ = some (.string a1_1) := (blk_cell BK118.out 1).trans rfl
                  have hcz31_2 : wc.cell? ⟨gb118, 2, none⟩ = some (.int .i64 a1_2) := (blk_cell BK118.out 2).trans rfl
                  have hfz31_0 := blk_frozen BK118.out 0
                  have hfz31_1 := blk_frozen BK118.out 1
                  have hfz31_2 := blk_frozen BK118.out 2
                  go_wp2
                  go_meet
                  case rel => exact ⟨_, (true), (by first | rfl | (simp; done) | (simp [*]; done) | (congr 1; unfold wrap64; omega)), H', ⟨by have := HJ2.out; have := HJ15.out; first | omega | exact Nat.le_refl _⟩, ⟨by (with_reducible repeat (first | refine blk_drewN ?_ _ | refine blk_drew ?_ | refine blk_alloc ?_ _)); exact BK117.out⟩, ⟨by (with_reducible repeat (first | refine blk_drewN ?_ _ | refine blk_drew ?_ | refine blk_alloc ?_ _)); exact BK118.out⟩, ⟨by repeat (first | (with_reducible first | exact HB.out | apply below_alloc | apply pw_below_drewN | apply below_drew1 | refine below_set ?_ GE117.out | refine below_set ?_ GE118.out) | exact HB.out)⟩⟩
                · rw [if_neg c29] at H
                  have c29b0 : (a1_1.toList == ([] : List UInt8)) = false := beq_eq_false_iff_ne.mpr c29
                  have c29b1 : (a1_1.toList != ([] : List UInt8)) = true := bne_iff_ne.mpr c29
                  (first | rw [c29b0] | (simp only [i64_w, i32_w]; rw [c29b0]) | skip)
                  have H' := Aside0.mk H
                  clear H
                  have hnb32 := NB118_117.out
                  have hnc32 := NB117_118.out
                  have hcz33_0 : wc.cell? ⟨gb118, 0, none⟩ = some (.bool a1_0) := (blk_cell BK118.out 0).trans rfl
                  have hcz33_1 : wc.cell? ⟨gb118, 1, none⟩ = some (.string a1_1) := (blk_cell BK118.out 1).trans rfl
                  have hcz33_2 : wc.cell? ⟨gb118, 2, none⟩ = some (.int .i64 a1_2) := (blk_cell BK118.out 2).trans rfl
                  have hfz33_0 := blk_frozen BK118.out 0
                  have hfz33_1 := blk_frozen BK118.out 1
                  have hfz33_2 := blk_frozen BK118.out 2
                  go_wp2
                  go_meet
                  case rel => exact ⟨_, (decide ((wrap64 ((a0_1.size : Int) + a0_2)) > (wrap64 ((a1_1.size : Int) + a1_2)))), (by first | rfl | (simp; done) | (simp [*]; done) | (congr 1; unfold wrap64; omega)), H', ⟨by have := HJ2.out; have := HJ15.out; first | omega | exact Nat.le_refl _⟩, ⟨by (with_reducible repeat (first | refine blk_drewN ?_ _ | refine blk_drew ?_ | refine blk_alloc ?_ _)); exact BK117.out⟩, ⟨by (with_reducible repeat (first | refine blk_drewN ?_ _ | refine blk_drew ?_ | refine blk_alloc ?_ _)); exact BK118.out⟩, ⟨by repeat (first | (with_reducible first | exact HB.out | apply below_alloc | apply pw_below_drewN | apply below_drew1 | refine below_set ?_ GE117.out | refine below_set ?_ GE118.out) | exact HB.out)⟩⟩
              case rest =>
                clear HC28
                try clear c1
                try clear c2
                try clear p2
                try clear c3
                try clear c6
                try clear p6
                try clear c9
                try clear c9b0
                try clear c9b1
                try clear c10
                try clear c13
                try clear c15
                try clear c17
                try clear c17b0
                try clear c17b1
                try clear c18
                try clear c20
                try clear c20b0
                try clear c20b1
                try clear c21
                try clear c24
                try clear c27
                try clear c29
                try clear c29b0
                try clear c29b1
                try clear c30
                try clear c32
                try clear hcz11_0
                try clear hcz11_1
                try clear hcz11_2
                try clear hcz12_0
                try clear hcz12_1
                try clear hcz12_2
                try clear hcz14_0
                try clear hcz14_1
                try clear hcz14_2
                try clear hcz19_0
                try clear hcz19_1
                try clear hcz19_2
                try clear hcz22_0
                try clear hcz22_1
                try clear hcz22_2
                try clear hcz23_0
                try clear hcz23_1
                try clear hcz23_2
                try clear hcz25_0
                try clear hcz25_1
                try clear hcz25_2
                try clear hcz26_0
                try clear hcz26_1
                try clear hcz26_2
                try clear hcz31_0
                try clear hcz31_1
                try clear hcz31_2
                try clear hcz33_0
                try clear hcz33_1
                try clear hcz33_2
                try clear hcz7_0
                try clear hcz7_1
                try clear hcz7_2
                try clear hcz8_0
                try clear hcz8_1
                try clear hcz8_2
                try clear hfz11_0
                try clear hfz11_1
                try clear hfz11_2
                try clear hfz12_0
                try clear hfz12_1
                try clear hfz12_2
                try clear hfz14_0
                try clear hfz14_1
                try clear hfz14_2
                try clear hfz19_0
                try clear hfz19_1
                try clear hfz19_2
                try clear hfz22_0
                try clear hfz22_1
                try clear hfz22_2
                try clear hfz23_0
                try clear hfz23_1
                try clear hfz23_2
                try clear hfz25_0
                try clear hfz25_1
                try clear hfz25_2
                try clear hfz26_0
                try clear hfz26_1
                try clear hfz26_2
                try clear hfz31_0
                try clear hfz31_1
                try clear hfz31_2
                try clear hfz33_0
                try clear hfz33_1
                try clear hfz33_2
                try clear hfz7_0
                try clear hfz7_1
                try clear hfz7_2
                try clear hfz8_0
                try clear hfz8_1
                try clear hfz8_2
                try clear p2
                try clear p6
                obtain ⟨kq, x42_27, rfl, HA, HJ27, BK117, BK118, HB⟩ := hcut
                cases kq with
                | zero => exact absurd HA.out (by simp [emendref2_size.j2])
                | succ kj27 =>
                  have H := HA.out
                  clear HA
                  simp only [emendref2_size.j2] at H
                  by_cases c34 : x42_27 = true
                  · subst c34
                    have H1 : (some 1) = some r := by rw [if_pos rfl] at H; exact H
                    clear H
                    have H := H1
                    clear H1
                    obtain rfl := Option.some.inj H
                    go_wp2
                    go_ret
                    exact ⟨by first | rfl | (simp [errW_none, errW_some] <;> rfl) | (simp [*, errW_none, errW_some] <;> rfl), by repeat (first | (with_reducible first | exact HB.out | apply below_alloc | apply pw_below_drewN | apply below_drew1 | refine below_set ?_ GE117.out | refine below_set ?_ GE118.out) | exact HB.out)⟩
                  · replace c34 := Bool.eq_false_iff.mpr c34
                    subst c34
                    have H1 : (if (Op.bytesLess a0_1.toList a1_1.toList) = true then (some (-1)) else (if (Op.bytesLess a1_1.toList a0_1.toList) = true then (some 1) else (some 0))) = some r := by rw [if_neg (show ¬ (false = true) by decide)] at H; exact H
                    clear H
                    have H := H1
                    clear H1
                    by_cases c35 : (Op.bytesLess a0_1.toList a1_1.toList) = true
                    · rw [if_pos c35] at H
                      have c35b0 : (Op.bytesLess a0_1.toList a1_1.toList) = true := c35
                      clear c35
                      obtain rfl := Option.some.inj H
                      have hnb36 := NB117_118.out
                      have hnc36 := NB118_117.out
                      have hcz37_0 : wc.cell? ⟨gb117, 0, none⟩ = some (.bool a0_0) := (blk_cell BK117.out 0).trans rfl
                      have hcz37_1 : wc.cell? ⟨gb117, 1, none⟩ = some (.string a0_1) := (blk_cell BK117.out 1).trans rfl
                      have hcz37_2 : wc.cell? ⟨gb117, 2, none⟩ = some (.int .i64 a0_2) := (blk_cell BK117.out 2).trans rfl
                      have hfz37_0 := blk_frozen BK117.out 0
                      have hfz37_1 := blk_frozen BK117.out 1
                      have hfz37_2 := blk_frozen BK117.out 2
                      have hcz38_0 : wc.cell? ⟨gb118, 0, none⟩ = some (.bool a1_0) := (blk_cell BK118.out 0).trans rfl
                      have hcz38_1 : wc.cell? ⟨gb118, 1, none⟩ = some (.string a1_1) := (blk_cell BK118.out 1).trans rfl
                      have hcz38_2 : wc.cell? ⟨gb118, 2, none⟩ = some (.int .i64 a1_2) := (blk_cell BK118.out 2).trans rfl
                      have hfz38_0 := blk_frozen BK118.out 0
                      have hfz38_1 := blk_frozen BK118.out 1
                      have hfz38_2 := blk_frozen BK118.out 2
                      go_wp2
                      go_ret
                      exact ⟨by first | rfl | (simp [errW_none, errW_some] <;> rfl) | (simp [*, errW_none, errW_some] <;> rfl), by repeat (first | (with_reducible first | exact HB.out | apply below_alloc | apply pw_below_drewN | apply below_drew1 | refine below_set ?_ GE117.out | refine below_set ?_ GE118.out) | exact HB.out)⟩
                    · rw [if_neg c35] at H
                      have c35b0 : (Op.bytesLess a0_1.toList a1_1.toList) = false := by simpa using c35
                      clear c35
                      by_cases c39 : (Op.bytesLess a1_1.toList a0_1.toList) = true
                      · rw [if_pos c39] at H
                        have c39b0 : (Op.bytesLess a1_1.toList a0_1.toList) = true := c39
                        clear c39
                        obtain rfl := Option.some.inj H
                        have hnb40 := NB117_118.out
                        have hnc40 := NB118_117.out
                        have hcz41_0 : wc.cell? ⟨gb117, 0, none⟩ = some (.bool a0_0) := (blk_cell BK117.out 0).trans rfl
                        have hcz41_1 : wc.cell? ⟨gb117, 1, none⟩ = some (.string a0_1) := (blk_cell BK117.out 1).trans rfl
                        have hcz41_2 : wc.cell? ⟨gb117, 2, none⟩ = some (.int .i64 a0_2) := (blk_cell BK117.out 2).trans rfl
                        have hfz41_0 := blk_frozen BK117.out 0
                        have hfz41_1 := blk_frozen BK117.out 1
                        have hfz41_2 := blk_frozen BK117.out 2
                        have hcz42_0 : wc.cell? ⟨gb118, 0, none⟩ = some (.bool a1_0) := (blk_cell BK118.out 0).trans rfl
                        have hcz42_1 : wc.cell? ⟨gb118, 1, none⟩ = some (.string a1_1) := (blk_cell BK118.out 1).trans rfl
                        have hcz42_2 : wc.cell? ⟨gb118, 2, none⟩ = some (.int .i64 a1_2) := (blk_cell BK118.out 2).trans rfl
                        have hfz42_0 := blk_frozen BK118.out 0
                        have hfz42_1 := blk_frozen BK118.out 1
                        have hfz42_2 := blk_frozen BK118.out 2
                        go_wp2
                        go_ret
                        exact ⟨by first | rfl | (simp [errW_none, errW_some] <;> rfl) | (simp [*, errW_none, errW_some] <;> rfl), by repeat (first | (with_reducible first | exact HB.out | apply below_alloc | apply pw_below_drewN | apply below_drew1 | refine below_set ?_ GE117.out | refine below_set ?_ GE118.out) | exact HB.out)⟩
                      · rw [if_neg c39] at H
                        have c39b0 : (Op.bytesLess a1_1.toList a0_1.toList) = false := by simpa using c39
                        clear c39
                        obtain rfl := Option.some.inj H
                        have hnb43 := NB117_118.out
                        have hnc43 := NB118_117.out
                        have hcz44_0 : wc.cell? ⟨gb117, 0, none⟩ = some (.bool a0_0) := (blk_cell BK117.out 0).trans rfl
                        have hcz44_1 : wc.cell? ⟨gb117, 1, none⟩ = some (.string a0_1) := (blk_cell BK117.out 1).trans rfl
                        have hcz44_2 : wc.cell? ⟨gb117, 2, none⟩ = some (.int .i64 a0_2) := (blk_cell BK117.out 2).trans rfl
                        have hfz44_0 := blk_frozen BK117.out 0
                        have hfz44_1 := blk_frozen BK117.out 1
                        have hfz44_2 := blk_frozen BK117.out 2
                        have hcz45_0 : wc.cell? ⟨gb118, 0, none⟩ = some (.bool a1_0) := (blk_cell BK118.out 0).trans rfl
                        have hcz45_1 : wc.cell? ⟨gb118, 1, none⟩ = some (.string a1_1) := (blk_cell BK118.out 1).trans rfl
                        have hcz45_2 : wc.cell? ⟨gb118, 2, none⟩ = some (.int .i64 a1_2) := (blk_cell BK118.out 2).trans rfl
                        have hfz45_0 := blk_frozen BK118.out 0
                        have hfz45_1 := blk_frozen BK118.out 1
                        have hfz45_2 := blk_frozen BK118.out 2
                        go_wp2
                        go_ret
                        exact ⟨by first | rfl | (simp [errW_none, errW_some] <;> rfl) | (simp [*, errW_none, errW_some] <;> rfl), by repeat (first | (with_reducible first | exact HB.out | apply below_alloc | apply pw_below_drewN | apply below_drew1 | refine below_set ?_ GE117.out | refine below_set ?_ GE118.out) | exact HB.out)⟩

end Go.Proofs.YtjaongknagmfiaaGreatDoor.PC
