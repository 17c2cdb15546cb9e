-- PRINTED by print.py (a twelfth state) out of the translation. Not trusted: Lean checks it.
import Derived.Test.YtjaongknagmfiaaGreatDoorPWx0
import Derived.Test.YtjaongknagmfiaaGreatDoorPWx1
import Derived.Test.YtjaongknagmfiaaGreatDoorPWx3
namespace Go.Proofs.YtjaongknagmfiaaGreatDoor.PW
open Go.RowKit Go.Proofs.YtjaongknagmfiaaGreatDoorW.PrintWords Go.Proofs.YtjaongknagmfiaaGreatDoorW.PrintLast Go.Proofs.YtjaongknagmfiaaGreatDoorW.PrintMore
attribute [local go_sem] max2_int min2_int max_two min_two max_three min_three max_four min_four   -- for this text's walks alone
set_option linter.unusedVariables false
set_option linter.unusedSimpArgs false

/-! ### emendref2_Join: function 25 -/
mutual
def emendref2_Join.l0 : Nat → Int → Int → Bool → ByteArray → Int → Option (ByteArray × Int)
 | 0, _, _, _, _, _ => none
 | k + 1, x4, x5, x108000, x108001, x108002 => if x5 < x4 then (if 0 ≤ x5 then (if x5 < (x108001.size : Int) then ((emendref2_digit.f (bt x108001 x5)).bind fun t108 => (if t108 = true then (emendref2_Join.l0 k x4 (wrap64 (x5 + 1)) x108000 x108001 x108002) else (some ((⟨#[]⟩ : ByteArray), 1)))) else (none)) else (none)) else (if x4 = 0 then (if x108002 = 0 then (if x108000 = true then (emendref2_Join.j1 k x4 true x108000 x108001 x108002) else (if x4 > 0 then (if 0 < (x108001.size : Int) then (if (bt x108001 0) = 48 then (emendref2_Join.j1 k x4 true x108000 x108001 x108002) else (if 0 ≤ (wrap64 (x4 - 1)) then (if (wrap64 (x4 - 1)) < (x108001.size : Int) then (emendref2_Join.j1 k x4 ((bt x108001 (wrap64 (x4 - 1))) == 48) x108000 x108001 x108002) else (none)) else (none))) else (none)) else (emendref2_Join.j1 k x4 false x108000 x108001 x108002))) else (emendref2_Join.j1 k x4 true x108000 x108001 x108002)) else (if x4 > 0 then (if 0 < (x108001.size : Int) then (if (bt x108001 0) = 48 then (emendref2_Join.j1 k x4 true x108000 x108001 x108002) else (if 0 ≤ (wrap64 (x4 - 1)) then (if (wrap64 (x4 - 1)) < (x108001.size : Int) then (emendref2_Join.j1 k x4 ((bt x108001 (wrap64 (x4 - 1))) == 48) x108000 x108001 x108002) else (none)) else (none))) else (none)) else (emendref2_Join.j1 k x4 false x108000 x108001 x108002)))
def emendref2_Join.j1 : Nat → Int → Bool → Bool → ByteArray → Int → Option (ByteArray × Int)
 | 0, _, _, _, _, _ => none
 | k + 1, x4, x49, x108000, x108001, x108002 => if x49 = true then (some ((⟨#[]⟩ : ByteArray), 1)) else (if x108002 > 999999 then (emendref2_Join.j2 k x4 true x108000 x108001 x108002) else (emendref2_Join.j2 k x4 (decide (x108002 < (-999999))) x108000 x108001 x108002))
def emendref2_Join.j2 : Nat → Int → Bool → Bool → ByteArray → Int → Option (ByteArray × Int)
 | 0, _, _, _, _, _ => none
 | k + 1, x4, x57, x108000, x108001, x108002 => if x57 = true then (some ((⟨#[]⟩ : ByteArray), 5)) else (if x4 = 0 then (some ((⟨#[48]⟩ : ByteArray), 0)) else (if x108000 = true then (if 1 + x108001.size ≤ 9223372036854775807 then (emendref2_Join.j3 k ((⟨#[45]⟩ : ByteArray) ++ x108001) x108000 x108001 x108002) else (none)) else (emendref2_Join.j3 k x108001 x108000 x108001 x108002)))
def emendref2_Join.j3 : Nat → ByteArray → Bool → ByteArray → Int → Option (ByteArray × Int)
 | 0, _, _, _, _ => none
 | k + 1, x6, x108000, x108001, x108002 => if x108002 = 0 then (if (x6.size : Int) > 1000 then (some ((⟨#[]⟩ : ByteArray), 2)) else (some (x6, 0))) else (if x6.size + 1 ≤ 9223372036854775807 then ((emendref2_Decimal.f x108002).bind fun t109 => (if (x6 ++ (⟨#[101]⟩ : ByteArray)).size + t109.size ≤ 9223372036854775807 then (if (((x6 ++ (⟨#[101]⟩ : ByteArray)) ++ t109).size : Int) > 1000 then (some ((⟨#[]⟩ : ByteArray), 2)) else (some ((x6 ++ (⟨#[101]⟩ : ByteArray)) ++ t109, 0))) else (none))) else (none))
end
def emendref2_Join.f (k : Nat) (a0_0 : Bool) (a0_1 : ByteArray) (a0_2 : Int) : Option (ByteArray × Int) := emendref2_Join.l0 k (a0_1.size : Int) 0 a0_0 a0_1 a0_2
theorem emendref2_Join.mono_l : ∀ k, (∀ y0 y1 y2 y3 y4, LeO (emendref2_Join.l0 k y0 y1 y2 y3 y4) (emendref2_Join.l0 (k + 1) y0 y1 y2 y3 y4)) ∧ (∀ y0 y1 y2 y3 y4, LeO (emendref2_Join.j1 k y0 y1 y2 y3 y4) (emendref2_Join.j1 (k + 1) y0 y1 y2 y3 y4)) ∧ (∀ y0 y1 y2 y3 y4, LeO (emendref2_Join.j2 k y0 y1 y2 y3 y4) (emendref2_Join.j2 (k + 1) y0 y1 y2 y3 y4)) ∧ (∀ y0 y1 y2 y3, LeO (emendref2_Join.j3 k y0 y1 y2 y3) (emendref2_Join.j3 (k + 1) y0 y1 y2 y3))
 | 0 => ⟨fun _ _ _ _ _ r h => by simp [emendref2_Join.l0] at h, fun _ _ _ _ _ r h => by simp [emendref2_Join.j1] at h, fun _ _ _ _ _ r h => by simp [emendref2_Join.j2] at h, fun _ _ _ _ r h => by simp [emendref2_Join.j3] at h⟩
 | k + 1 => by
  obtain ⟨ih0, ih1, ih2, ih3⟩ := emendref2_Join.mono_l k
  refine ⟨?_, ?_, ?_, ?_⟩
  ·
   intro y0 y1 y2 y3 y4
   unfold emendref2_Join.l0
   repeat' first
   | (with_reducible exact ih0 _ _ _ _ _)
   | (with_reducible exact ih1 _ _ _ _ _)
   | (with_reducible exact ih2 _ _ _ _ _)
   | (with_reducible exact ih3 _ _ _ _)
   | (with_reducible exact LeO.refl _)
   | (with_reducible exact LeO.none _)
   | (with_reducible refine LeO.ite ?_ ?_)
   | (with_reducible refine LeO.bind ?_ (fun _ => ?_))
   | exact ih0 _ _ _ _ _
   | exact ih1 _ _ _ _ _
   | exact ih2 _ _ _ _ _
   | exact ih3 _ _ _ _
   | exact LeO.none _
   | refine LeO.ite ?_ ?_
   | refine LeO.bind ?_ (fun _ => ?_)
  ·
   intro y0 y1 y2 y3 y4
   unfold emendref2_Join.j1
   repeat' first
   | (with_reducible exact ih0 _ _ _ _ _)
   | (with_reducible exact ih1 _ _ _ _ _)
   | (with_reducible exact ih2 _ _ _ _ _)
   | (with_reducible exact ih3 _ _ _ _)
   | (with_reducible exact LeO.refl _)
   | (with_reducible exact LeO.none _)
   | (with_reducible refine LeO.ite ?_ ?_)
   | (with_reducible refine LeO.bind ?_ (fun _ => ?_))
   | exact ih0 _ _ _ _ _
   | exact ih1 _ _ _ _ _
   | exact ih2 _ _ _ _ _
   | exact ih3 _ _ _ _
   | exact LeO.none _
   | refine LeO.ite ?_ ?_
   | refine LeO.bind ?_ (fun _ => ?_)
  ·
   intro y0 y1 y2 y3 y4
   unfold emendref2_Join.j2
   repeat' first
   | (with_reducible exact ih0 _ _ _ _ _)
   | (with_reducible exact ih1 _ _ _ _ _)
   | (with_reducible exact ih2 _ _ _ _ _)
   | (with_reducible exact ih3 _ _ _ _)
   | (with_reducible exact LeO.refl _)
   | (with_reducible exact LeO.none _)
   | (with_reducible refine LeO.ite ?_ ?_)
   | (with_reducible refine LeO.bind ?_ (fun _ => ?_))
   | exact ih0 _ _ _ _ _
   | exact ih1 _ _ _ _ _
   | exact ih2 _ _ _ _ _
   | exact ih3 _ _ _ _
   | exact LeO.none _
   | refine LeO.ite ?_ ?_
   | refine LeO.bind ?_ (fun _ => ?_)
  ·
   intro y0 y1 y2 y3
   unfold emendref2_Join.j3
   repeat' first
   | (with_reducible exact ih0 _ _ _ _ _)
   | (with_reducible exact ih1 _ _ _ _ _)
   | (with_reducible exact ih2 _ _ _ _ _)
   | (with_reducible exact ih3 _ _ _ _)
   | (with_reducible exact LeO.refl _)
   | (with_reducible exact LeO.none _)
   | (with_reducible refine LeO.ite ?_ ?_)
   | (with_reducible refine LeO.bind ?_ (fun _ => ?_))
   | exact ih0 _ _ _ _ _
   | exact ih1 _ _ _ _ _
   | exact ih2 _ _ _ _ _
   | exact ih3 _ _ _ _
   | exact LeO.none _
   | refine LeO.ite ?_ ?_
   | refine LeO.bind ?_ (fun _ => ?_)
theorem emendref2_Join.mono : ∀ a0 a1 a2 k, LeO (emendref2_Join.f k a0 a1 a2) (emendref2_Join.f (k + 1) a0 a1 a2) := by
 intro a0 a1 a2 k
 obtain ⟨ih0, ih1, ih2, ih3⟩ := emendref2_Join.mono_l k
 unfold emendref2_Join.f
 repeat' first
   | (with_reducible exact ih0 _ _ _ _ _)
   | (with_reducible exact ih1 _ _ _ _ _)
   | (with_reducible exact ih2 _ _ _ _ _)
   | (with_reducible exact ih3 _ _ _ _)
   | (with_reducible exact LeO.refl _)
   | (with_reducible exact LeO.none _)
   | (with_reducible refine LeO.ite ?_ ?_)
   | (with_reducible refine LeO.bind ?_ (fun _ => ?_))
   | exact ih0 _ _ _ _ _
   | exact ih1 _ _ _ _ _
   | exact ih2 _ _ _ _ _
   | exact ih3 _ _ _ _
   | exact LeO.none _
   | refine LeO.ite ?_ ?_
   | refine LeO.bind ?_ (fun _ => ?_)
set_option maxHeartbeats 8000000 in
set_option maxRecDepth 100000 in
theorem emendref2_Join.calls (k : Nat) (a0_0 : Bool) (a0_1 : ByteArray) (a0_2 : Int) (r1 : ByteArray) (r2 : Int) (w : World) (h : emendref2_Join.f k a0_0 a0_1 a0_2 = some (r1, r2)) :
  Calls Tryz.prog 25 #[.agg #[.bool a0_0, .string a0_1, .int .i64 a0_2]] w fun e w' => e = .returned (.tuple #[.string r1, .int .i64 r2]) ∧ Below w.heap.size w w' := by
 have hu28 := Tryz.underlying28
 have HB := Aside0.mk (Below.refl w.heap.size w)
 have H : (emendref2_Join.l0 k (a0_1.size : Int) 0 a0_0 a0_1 a0_2) = some (r1, r2) := h
 clear h
 have H' := Aside0.mk H
 clear H
 go_enter Tryz.func25, Tryz.ntmps25
 go_wp2_with (first | ((with_reducible refine gate_dst (N := 1) rfl ?_); refine box_event ?hg (N := 1) ?hd (cs := #[.bool a0_0, .string a0_1, .int .i64 a0_2]) (t := 28) ?hr ?_; (case hd => rfl); (case hg => rfl); (case hr => first | (go_simp; done) | (go_simp; rfl)); intro gb107 hg w2 hbox hb; have n0_ := Aside0.mk (below_step (by repeat (first | (with_reducible first | exact HB.out | apply below_alloc | apply pw_below_drewN | apply below_drew1) | exact HB.out)) hb); have n1_ := Aside0.mk (hbox); have n2_ := Aside0.mk ((by rw [hg]; exact (below_size (by repeat (first | (with_reducible first | exact HB.out | apply below_alloc | apply pw_below_drewN | apply below_drew1) | exact HB.out))) : w.heap.size ≤ gb107)); have n3_ := Aside0.mk ((by rw [hg]; exact (below_size (by repeat (first | (with_reducible first | exact HB.out | apply below_alloc | apply pw_below_drewN | apply below_drew1) | exact HB.out))) : w.heap.size ≤ gb107)); clear HB; have HB := n0_; have BK107 := n1_; have GW107 := n2_; have GE107 := n3_; clear n0_ n1_ n2_ n3_; clear hb hbox hg; have hcz3_0 : w2.cell? ⟨gb107, 0, none⟩ = some (.bool a0_0) := (blk_cell BK107.out 0).trans rfl; have hcz3_1 : w2.cell? ⟨gb107, 1, none⟩ = some (.string a0_1) := (blk_cell BK107.out 1).trans rfl; have hcz3_2 : w2.cell? ⟨gb107, 2, none⟩ = some (.int .i64 a0_2) := (blk_cell BK107.out 2).trans rfl; have hfz3_0 := blk_frozen BK107.out 0; have hfz3_1 := blk_frozen BK107.out 1; have hfz3_2 := blk_frozen BK107.out 2))
 go_loopg [5] k (fun kq v5 w' => ∃ (x5_1 : Int), v5 = .int .i64 x5_1 ∧ Aside0 (emendref2_Join.l0 kq (a0_1.size : Int) x5_1 a0_0 a0_1 a0_2 = some (r1, r2)) ∧ Aside0 (kq ≤ k) ∧ Aside0 (w'.heap[gb107]? = some (.cells #[.bool a0_0, .string a0_1, .int .i64 a0_2] 28 (0, 0))) ∧ Aside0 (Below w.heap.size w w'))
 case atStart => exact ⟨(0), (by first | rfl | (simp; done) | (simp [*]; done) | (congr 1; unfold wrap64; omega)), H', ⟨Nat.le_refl _⟩, ⟨by (with_reducible repeat (first | refine blk_drewN ?_ _ | refine blk_drew ?_ | refine blk_alloc ?_ _)); exact BK107.out⟩, ⟨by repeat (first | (with_reducible first | exact HB.out | apply below_alloc | apply pw_below_drewN | apply below_drew1 | refine below_set ?_ GE107.out) | exact HB.out)⟩⟩
 case round =>
  clear H'
  try clear c2
  try clear p2
  try clear hcz3_0
  try clear hcz3_1
  try clear hcz3_2
  try clear hfz3_0
  try clear hfz3_1
  try clear hfz3_2
  obtain ⟨x5_1, rfl, HA, HK1, BK107, HB⟩ := hrel
  cases gk with
  | zero => exact absurd HA.out (by simp [emendref2_Join.l0])
  | succ k1 =>
   have H := HA.out
   clear HA
   simp only [emendref2_Join.l0] at H
   by_cases c4 : x5_1 < (a0_1.size : Int)
   ·
    rw [if_pos c4] at H
    have c4b0 : decide (x5_1 < (a0_1.size : Int)) = true := decide_eq_true c4
    clear c4
    by_cases c5 : 0 ≤ x5_1
    ·
     rw [if_pos c5] at H
     have c5b0 : decide (0 ≤ x5_1) = true := decide_eq_true c5
     clear c5
     by_cases c6 : x5_1 < (a0_1.size : Int)
     ·
      rw [if_pos c6] at H
      have c6b0 : decide (x5_1 < (a0_1.size : Int)) = true := decide_eq_true c6
      clear c6
      replace H := Option.bind_eq_some_iff.mp H
      obtain ⟨t108, A80, H⟩ := H
      replace H : (if t108 = true then (emendref2_Join.l0 k1 (a0_1.size : Int) (wrap64 (x5_1 + 1)) a0_0 a0_1 a0_2) else (some ((⟨#[]⟩ : ByteArray), 1))) = some (r1, r2) := H
      have A8 := Aside0.mk A80
      clear A80
      by_cases c9 : t108 = true
      ·
       subst c9
       have H1 : (emendref2_Join.l0 k1 (a0_1.size : Int) (wrap64 (x5_1 + 1)) a0_0 a0_1 a0_2) = some (r1, r2) := by rw [if_pos rfl] at H; exact H
       clear H
       have H := H1
       clear H1
       have H' := Aside0.mk H
       clear H
       have hcz10_0 : wr.cell? ⟨gb107, 0, none⟩ = some (.bool a0_0) := (blk_cell BK107.out 0).trans rfl
       have hcz10_1 : wr.cell? ⟨gb107, 1, none⟩ = some (.string a0_1) := (blk_cell BK107.out 1).trans rfl
       have hcz10_2 : wr.cell? ⟨gb107, 2, none⟩ = some (.int .i64 a0_2) := (blk_cell BK107.out 2).trans rfl
       have hfz10_0 := blk_frozen BK107.out 0
       have hfz10_1 := blk_frozen BK107.out 1
       have hfz10_2 := blk_frozen BK107.out 2
       have p7 : 0 ≤ (x5_1 : Int) := of_decide_eq_true (by first | (with_reducible assumption) | assumption)
       have q7 : x5_1 < (a0_1.size : Int) := of_decide_eq_true (by first | (with_reducible assumption) | assumption)
       have hx7 := bt_at a0_1 x5_1
       replace p7 := eq_true p7
       replace q7 := eq_true q7
       go_wp2_with (first | ((with_reducible refine gate_callee (f := 50) rfl ?_); refine goesL_ (some 19) rfl rfl Tryz.func50 (by kernel_rfl) rfl #[.int .u8 (bt a0_1 x5_1)] rfl (by (try simp only [List.map_toArray, List.map_cons, List.map_nil]); first | done | rfl | (simp only [List.length_drop, List.length_take]; rfl)) ?_; (with_reducible refine (emendref2_digit.calls (bt a0_1 x5_1) true _ A8.out).mono ?_); rintro e w' ⟨rfl, ⟨nd, rfl⟩⟩; refine ⟨_, rfl, ?_⟩))
       go_roundg k1
       case measure => have := HK1.out; omega
       case rel => exact ⟨(wrap64 (x5_1 + 1)), (by first | rfl | (simp; done) | (simp [*]; done) | (congr 1; unfold wrap64; omega)), H', ⟨by have := HK1.out; omega⟩, ⟨by (with_reducible repeat (first | refine blk_drewN ?_ _ | refine blk_drew ?_ | refine blk_alloc ?_ _)); exact BK107.out⟩, ⟨by repeat (first | (with_reducible first | exact HB.out | apply below_alloc | apply pw_below_drewN | apply below_drew1 | refine below_set ?_ GE107.out) | exact HB.out)⟩⟩
      ·
       replace c9 := Bool.eq_false_iff.mpr c9
       subst c9
       have H1 : (some ((⟨#[]⟩ : ByteArray), 1)) = some (r1, r2) := by rw [if_neg (show ¬ (false = true) by decide)] at H; exact H
       clear H
       have H := H1
       clear H1
       simp only [Option.some.injEq, Prod.mk.injEq] at H
       obtain ⟨rfl, rfl⟩ := H
       have hcz11_0 : wr.cell? ⟨gb107, 0, none⟩ = some (.bool a0_0) := (blk_cell BK107.out 0).trans rfl
       have hcz11_1 : wr.cell? ⟨gb107, 1, none⟩ = some (.string a0_1) := (blk_cell BK107.out 1).trans rfl
       have hcz11_2 : wr.cell? ⟨gb107, 2, none⟩ = some (.int .i64 a0_2) := (blk_cell BK107.out 2).trans rfl
       have hfz11_0 := blk_frozen BK107.out 0
       have hfz11_1 := blk_frozen BK107.out 1
       have hfz11_2 := blk_frozen BK107.out 2
       have p7 : 0 ≤ (x5_1 : Int) := of_decide_eq_true (by first | (with_reducible assumption) | assumption)
       have q7 : x5_1 < (a0_1.size : Int) := of_decide_eq_true (by first | (with_reducible assumption) | assumption)
       have hx7 := bt_at a0_1 x5_1
       replace p7 := eq_true p7
       replace q7 := eq_true q7
       go_wp2_with (first | ((with_reducible refine gate_callee (f := 50) rfl ?_); refine goesL_ (some 19) rfl rfl Tryz.func50 (by kernel_rfl) rfl #[.int .u8 (bt a0_1 x5_1)] rfl (by (try simp only [List.map_toArray, List.map_cons, List.map_nil]); first | done | rfl | (simp only [List.length_drop, List.length_take]; rfl)) ?_; (with_reducible refine (emendref2_digit.calls (bt a0_1 x5_1) false _ A8.out).mono ?_); rintro e w' ⟨rfl, ⟨nd, rfl⟩⟩; refine ⟨_, rfl, ?_⟩))
       go_ret2
       exact ⟨by first | rfl | (simp [errW_none, errW_some] <;> rfl) | (simp [*, errW_none, errW_some] <;> rfl), by repeat (first | (with_reducible first | exact HB.out | apply below_alloc | apply pw_below_drewN | apply below_drew1 | refine below_set ?_ GE107.out) | exact HB.out)⟩
     ·
      rw [if_neg c6] at H
      exact absurd H (by simp)
    ·
     rw [if_neg c5] at H
     exact absurd H (by simp)
   ·
    rw [if_neg c4] at H
    have c4b0 : decide (x5_1 < (a0_1.size : Int)) = false := decide_eq_false c4
    clear c4
    have HC12 := Aside0.mk H
    clear H
    go_upto_region 7 with (fail)
    go_cut [49] (fun v49 wc => ∃ (kq : Nat) (x49_11 : Bool), v49 = .bool x49_11 ∧ Aside0 (emendref2_Join.j1 kq (a0_1.size : Int) x49_11 a0_0 a0_1 a0_2 = some (r1, r2)) ∧ Aside0 (kq ≤ k1) ∧ Aside0 (wc.heap[gb107]? = some (.cells #[.bool a0_0, .string a0_1, .int .i64 a0_2] 28 (0, 0))) ∧ Aside0 (Below w.heap.size w wc))
    case first =>
     have H := HC12.out
     clear HC12
     by_cases c13 : (a0_1.size : Int) = 0
     ·
      rw [if_pos c13] at H
      have c13b0 : ((a0_1.size : Int) == 0) = true := beq_iff_eq.mpr c13
      have c13b1 : ((a0_1.size : Int) != 0) = false := bne_eq_false_iff_eq.mpr c13
      clear c13
      (first | rw [c13b0] | (simp only [i64_w, i32_w]; rw [c13b0]) | skip)
      by_cases c14 : a0_2 = 0
      ·
       rw [if_pos c14] at H
       have c14b0 : (a0_2 == 0) = true := beq_iff_eq.mpr c14
       have c14b1 : (a0_2 != 0) = false := bne_eq_false_iff_eq.mpr c14
       clear c14
       by_cases c15 : a0_0 = true
       ·
        subst c15
        have H1 : (emendref2_Join.j1 k1 (a0_1.size : Int) true true a0_1 a0_2) = some (r1, r2) := by rw [if_pos rfl] at H; exact H
        clear H
        have H := H1
        clear H1
        have H' := Aside0.mk H
        clear H
        have hcz16_0 : wr.cell? ⟨gb107, 0, none⟩ = some (.bool true) := (blk_cell BK107.out 0).trans rfl
        have hcz16_1 : wr.cell? ⟨gb107, 1, none⟩ = some (.string a0_1) := (blk_cell BK107.out 1).trans rfl
        have hcz16_2 : wr.cell? ⟨gb107, 2, none⟩ = some (.int .i64 a0_2) := (blk_cell BK107.out 2).trans rfl
        have hfz16_0 := blk_frozen BK107.out 0
        have hfz16_1 := blk_frozen BK107.out 1
        have hfz16_2 := blk_frozen BK107.out 2
        go_wp2
        go_meet
        case rel => exact ⟨_, (true), (by first | rfl | (simp; done) | (simp [*]; done) | (congr 1; unfold wrap64; omega)), H', ⟨by have := HK1.out; first | omega | exact Nat.le_refl _⟩, ⟨by (with_reducible repeat (first | refine blk_drewN ?_ _ | refine blk_drew ?_ | refine blk_alloc ?_ _)); exact BK107.out⟩, ⟨by repeat (first | (with_reducible first | exact HB.out | apply below_alloc | apply pw_below_drewN | apply below_drew1 | refine below_set ?_ GE107.out) | exact HB.out)⟩⟩
       ·
        replace c15 := Bool.eq_false_iff.mpr c15
        subst c15
        have H1 : (if (a0_1.size : Int) > 0 then (if 0 < (a0_1.size : Int) then (if (bt a0_1 0) = 48 then (emendref2_Join.j1 k1 (a0_1.size : Int) true false a0_1 a0_2) else (if 0 ≤ (wrap64 ((a0_1.size : Int) - 1)) then (if (wrap64 ((a0_1.size : Int) - 1)) < (a0_1.size : Int) then (emendref2_Join.j1 k1 (a0_1.size : Int) ((bt a0_1 (wrap64 ((a0_1.size : Int) - 1))) == 48) false a0_1 a0_2) else (none)) else (none))) else (none)) else (emendref2_Join.j1 k1 (a0_1.size : Int) false false a0_1 a0_2)) = some (r1, r2) := by rw [if_neg (show ¬ (false = true) by decide)] at H; exact H
        clear H
        have H := H1
        clear H1
        by_cases c17 : (a0_1.size : Int) > 0
        ·
         rw [if_pos c17] at H
         have c17b0 : decide (0 < (a0_1.size : Int)) = true := decide_eq_true c17
         have c17b1 : decide (0 < a0_1.size) = true := decide_eq_true (by omega)
         clear c17
         by_cases c18 : 0 < (a0_1.size : Int)
         ·
          rw [if_pos c18] at H
          have c18b0 : decide (0 < (a0_1.size : Int)) = true := decide_eq_true c18
          have c18b1 : decide (0 < a0_1.size) = true := decide_eq_true (by omega)
          clear c18
          by_cases c20 : (bt a0_1 0) = 48
          ·
           rw [if_pos c20] at H
           have c20b0 : ((bt a0_1 0) == 48) = true := beq_iff_eq.mpr c20
           have c20b1 : ((bt a0_1 0) != 48) = false := bne_eq_false_iff_eq.mpr c20
           clear c20
           have H' := Aside0.mk H
           clear H
           have hcz21_0 : wr.cell? ⟨gb107, 0, none⟩ = some (.bool false) := (blk_cell BK107.out 0).trans rfl
           have hcz21_1 : wr.cell? ⟨gb107, 1, none⟩ = some (.string a0_1) := (blk_cell BK107.out 1).trans rfl
           have hcz21_2 : wr.cell? ⟨gb107, 2, none⟩ = some (.int .i64 a0_2) := (blk_cell BK107.out 2).trans rfl
           have hfz21_0 := blk_frozen BK107.out 0
           have hfz21_1 := blk_frozen BK107.out 1
           have hfz21_2 := blk_frozen BK107.out 2
           have p19 : 0 ≤ (0 : Int) := (by omega)
           have q19 : 0 < a0_1.size := (by have : (0 : Int) < (a0_1.size : Int) := of_decide_eq_true (by first | (with_reducible assumption) | assumption); omega)
           have hx19 : ∀ h : 0 < a0_1.size, ((a0_1[0]'h).toNat : Int) = bt a0_1 0 := bt_at a0_1 0
           clear p19
           have qi19 : (0 < (a0_1.size : Int)) = True := eq_true (of_decide_eq_true (by first | (with_reducible assumption) | assumption))
           replace q19 := eq_true q19
           go_wp2
           go_meet
           case rel => exact ⟨_, (true), (by first | rfl | (simp; done) | (simp [*]; done) | (congr 1; unfold wrap64; omega)), H', ⟨by have := HK1.out; first | omega | exact Nat.le_refl _⟩, ⟨by (with_reducible repeat (first | refine blk_drewN ?_ _ | refine blk_drew ?_ | refine blk_alloc ?_ _)); exact BK107.out⟩, ⟨by repeat (first | (with_reducible first | exact HB.out | apply below_alloc | apply pw_below_drewN | apply below_drew1 | refine below_set ?_ GE107.out) | exact HB.out)⟩⟩
          ·
           rw [if_neg c20] at H
           have c20b0 : ((bt a0_1 0) == 48) = false := beq_eq_false_iff_ne.mpr c20
           have c20b1 : ((bt a0_1 0) != 48) = true := bne_iff_ne.mpr c20
           obtain ⟨ji22, hji22⟩ : ∃ j_ : Int, (wrap64 ((a0_1.size : Int) - 1)) = j_ := ⟨_, rfl⟩
           replace H : (if 0 ≤ (ji22) then (if (ji22) < (a0_1.size : Int) then (emendref2_Join.j1 k1 (a0_1.size : Int) ((bt a0_1 (ji22)) == 48) false a0_1 a0_2) else (none)) else (none)) = some (r1, r2) := by first | (rw [hji22] at H; exact H) | (simp only [hji22] at H ⊢; exact H)
           have hji22w : (IntKind.i64.wrap ((a0_1.size : Int) - 1)) = ji22 := (i64_w _).trans hji22
           by_cases c23 : 0 ≤ (ji22)
           ·
            rw [if_pos c23] at H
            have c23b0 : decide (0 ≤ (ji22)) = true := decide_eq_true c23
            clear c23
            by_cases c24 : (ji22) < (a0_1.size : Int)
            ·
             rw [if_pos c24] at H
             have c24b0 : decide ((ji22) < (a0_1.size : Int)) = true := decide_eq_true c24
             clear c24
             have H' := Aside0.mk H
             clear H
             have hcz26_0 : wr.cell? ⟨gb107, 0, none⟩ = some (.bool false) := (blk_cell BK107.out 0).trans rfl
             have hcz26_1 : wr.cell? ⟨gb107, 1, none⟩ = some (.string a0_1) := (blk_cell BK107.out 1).trans rfl
             have hcz26_2 : wr.cell? ⟨gb107, 2, none⟩ = some (.int .i64 a0_2) := (blk_cell BK107.out 2).trans rfl
             have hfz26_0 := blk_frozen BK107.out 0
             have hfz26_1 := blk_frozen BK107.out 1
             have hfz26_2 := blk_frozen BK107.out 2
             have p19 : 0 ≤ (0 : Int) := (by omega)
             have q19 : 0 < a0_1.size := (by have : (0 : Int) < (a0_1.size : Int) := of_decide_eq_true (by first | (with_reducible assumption) | assumption); omega)
             have hx19 : ∀ h : 0 < a0_1.size, ((a0_1[0]'h).toNat : Int) = bt a0_1 0 := bt_at a0_1 0
             clear p19
             have qi19 : (0 < (a0_1.size : Int)) = True := eq_true (of_decide_eq_true (by first | (with_reducible assumption) | assumption))
             replace q19 := eq_true q19
             have p25 : 0 ≤ ((ji22) : Int) := of_decide_eq_true (by first | (with_reducible assumption) | assumption)
             have q25 : (ji22) < (a0_1.size : Int) := of_decide_eq_true (by first | (with_reducible assumption) | assumption)
             have hx25 := bt_at a0_1 (ji22)
             replace p25 := eq_true p25
             replace q25 := eq_true q25
             go_wp2
             go_meet
             case rel => exact ⟨_, (((bt a0_1 (ji22)) == 48)), (by first | rfl | (simp; done) | (simp only [← hji22] <;> (first | rfl | simp)) | (simp [*]; done)), (by first | (with_reducible exact H') | exact H' | (rw [hji22]; exact H') | (simp only [hji22]; exact H')), ⟨by have := HK1.out; first | omega | exact Nat.le_refl _⟩, ⟨by (with_reducible repeat (first | refine blk_drewN ?_ _ | refine blk_drew ?_ | refine blk_alloc ?_ _)); exact BK107.out⟩, ⟨by repeat (first | (with_reducible first | exact HB.out | apply below_alloc | apply pw_below_drewN | apply below_drew1 | refine below_set ?_ GE107.out) | exact HB.out)⟩⟩
            ·
             rw [if_neg c24] at H
             exact absurd H (by simp)
           ·
            rw [if_neg c23] at H
            exact absurd H (by simp)
         ·
          rw [if_neg c18] at H
          exact absurd H (by simp)
        ·
         rw [if_neg c17] at H
         have c17b0 : decide (0 < (a0_1.size : Int)) = false := decide_eq_false c17
         have c17b1 : decide (0 < a0_1.size) = false := decide_eq_false (by omega)
         clear c17
         have H' := Aside0.mk H
         clear H
         have hcz27_0 : wr.cell? ⟨gb107, 0, none⟩ = some (.bool false) := (blk_cell BK107.out 0).trans rfl
         have hcz27_1 : wr.cell? ⟨gb107, 1, none⟩ = some (.string a0_1) := (blk_cell BK107.out 1).trans rfl
         have hcz27_2 : wr.cell? ⟨gb107, 2, none⟩ = some (.int .i64 a0_2) := (blk_cell BK107.out 2).trans rfl
         have hfz27_0 := blk_frozen BK107.out 0
         have hfz27_1 := blk_frozen BK107.out 1
         have hfz27_2 := blk_frozen BK107.out 2
         go_wp2
         go_meet
         case rel => exact ⟨_, (false), (by first | rfl | (simp; done) | (simp [*]; done) | (congr 1; unfold wrap64; omega)), H', ⟨by have := HK1.out; first | omega | exact Nat.le_refl _⟩, ⟨by (with_reducible repeat (first | refine blk_drewN ?_ _ | refine blk_drew ?_ | refine blk_alloc ?_ _)); exact BK107.out⟩, ⟨by repeat (first | (with_reducible first | exact HB.out | apply below_alloc | apply pw_below_drewN | apply below_drew1 | refine below_set ?_ GE107.out) | exact HB.out)⟩⟩
      ·
       rw [if_neg c14] at H
       have c14b0 : (a0_2 == 0) = false := beq_eq_false_iff_ne.mpr c14
       have c14b1 : (a0_2 != 0) = true := bne_iff_ne.mpr c14
       have H' := Aside0.mk H
       clear H
       have hcz28_0 : wr.cell? ⟨gb107, 0, none⟩ = some (.bool a0_0) := (blk_cell BK107.out 0).trans rfl
       have hcz28_1 : wr.cell? ⟨gb107, 1, none⟩ = some (.string a0_1) := (blk_cell BK107.out 1).trans rfl
       have hcz28_2 : wr.cell? ⟨gb107, 2, none⟩ = some (.int .i64 a0_2) := (blk_cell BK107.out 2).trans rfl
       have hfz28_0 := blk_frozen BK107.out 0
       have hfz28_1 := blk_frozen BK107.out 1
       have hfz28_2 := blk_frozen BK107.out 2
       go_wp2
       go_meet
       case rel => exact ⟨_, (true), (by first | rfl | (simp; done) | (simp [*]; done) | (congr 1; unfold wrap64; omega)), H', ⟨by have := HK1.out; first | omega | exact Nat.le_refl _⟩, ⟨by (with_reducible repeat (first | refine blk_drewN ?_ _ | refine blk_drew ?_ | refine blk_alloc ?_ _)); exact BK107.out⟩, ⟨by repeat (first | (with_reducible first | exact HB.out | apply below_alloc | apply pw_below_drewN | apply below_drew1 | refine below_set ?_ GE107.out) | exact HB.out)⟩⟩
     ·
      rw [if_neg c13] at H
      have c13b0 : ((a0_1.size : Int) == 0) = false := beq_eq_false_iff_ne.mpr c13
      have c13b1 : ((a0_1.size : Int) != 0) = true := bne_iff_ne.mpr c13
      (first | rw [c13b0] | (simp only [i64_w, i32_w]; rw [c13b0]) | skip)
      by_cases c29 : (a0_1.size : Int) > 0
      ·
       rw [if_pos c29] at H
       have c29b0 : decide (0 < (a0_1.size : Int)) = true := decide_eq_true c29
       have c29b1 : decide (0 < a0_1.size) = true := decide_eq_true (by omega)
       clear c29
       by_cases c30 : 0 < (a0_1.size : Int)
       ·
        rw [if_pos c30] at H
        have c30b0 : decide (0 < (a0_1.size : Int)) = true := decide_eq_true c30
        have c30b1 : decide (0 < a0_1.size) = true := decide_eq_true (by omega)
        clear c30
        by_cases c32 : (bt a0_1 0) = 48
        ·
         rw [if_pos c32] at H
         have c32b0 : ((bt a0_1 0) == 48) = true := beq_iff_eq.mpr c32
         have c32b1 : ((bt a0_1 0) != 48) = false := bne_eq_false_iff_eq.mpr c32
         clear c32
         have H' := Aside0.mk H
         clear H
         have hcz33_0 : wr.cell? ⟨gb107, 0, none⟩ = some (.bool a0_0) := (blk_cell BK107.out 0).trans rfl
         have hcz33_1 : wr.cell? ⟨gb107, 1, none⟩ = some (.string a0_1) := (blk_cell BK107.out 1).trans rfl
         have hcz33_2 : wr.cell? ⟨gb107, 2, none⟩ = some (.int .i64 a0_2) := (blk_cell BK107.out 2).trans rfl
         have hfz33_0 := blk_frozen BK107.out 0
         have hfz33_1 := blk_frozen BK107.out 1
         have hfz33_2 := blk_frozen BK107.out 2
         have p31 : 0 ≤ (0 : Int) := (by omega)
         have q31 : 0 < a0_1.size := (by have : (0 : Int) < (a0_1.size : Int) := of_decide_eq_true (by first | (with_reducible assumption) | assumption); omega)
         have hx31 : ∀ h : 0 < a0_1.size, ((a0_1[0]'h).toNat : Int) = bt a0_1 0 := bt_at a0_1 0
         clear p31
         have qi31 : (0 < (a0_1.size : Int)) = True := eq_true (of_decide_eq_true (by first | (with_reducible assumption) | assumption))
         replace q31 := eq_true q31
         go_wp2
         go_meet
         case rel => exact ⟨_, (true), (by first | rfl | (simp; done) | (simp [*]; done) | (congr 1; unfold wrap64; omega)), H', ⟨by have := HK1.out; first | omega | exact Nat.le_refl _⟩, ⟨by (with_reducible repeat (first | refine blk_drewN ?_ _ | refine blk_drew ?_ | refine blk_alloc ?_ _)); exact BK107.out⟩, ⟨by repeat (first | (with_reducible first | exact HB.out | apply below_alloc | apply pw_below_drewN | apply below_drew1 | refine below_set ?_ GE107.out) | exact HB.out)⟩⟩
        ·
         rw [if_neg c32] at H
         have c32b0 : ((bt a0_1 0) == 48) = false := beq_eq_false_iff_ne.mpr c32
         have c32b1 : ((bt a0_1 0) != 48) = true := bne_iff_ne.mpr c32
         obtain ⟨ji34, hji34⟩ : ∃ j_ : Int, (wrap64 ((a0_1.size : Int) - 1)) = j_ := ⟨_, rfl⟩
         replace H : (if 0 ≤ (ji34) then (if (ji34) < (a0_1.size : Int) then (emendref2_Join.j1 k1 (a0_1.size : Int) ((bt a0_1 (ji34)) == 48) a0_0 a0_1 a0_2) else (none)) else (none)) = some (r1, r2) := by first | (rw [hji34] at H; exact H) | (simp only [hji34] at H ⊢; exact H)
         have hji34w : (IntKind.i64.wrap ((a0_1.size : Int) - 1)) = ji34 := (i64_w _).trans hji34
         by_cases c35 : 0 ≤ (ji34)
         ·
          rw [if_pos c35] at H
          have c35b0 : decide (0 ≤ (ji34)) = true := decide_eq_true c35
          clear c35
          by_cases c36 : (ji34) < (a0_1.size : Int)
          ·
           rw [if_pos c36] at H
           have c36b0 : decide ((ji34) < (a0_1.size : Int)) = true := decide_eq_true c36
           clear c36
           have H' := Aside0.mk H
           clear H
           have hcz38_0 : wr.cell? ⟨gb107, 0, none⟩ = some (.bool a0_0) := (blk_cell BK107.out 0).trans rfl
           have hcz38_1 : wr.cell? ⟨gb107, 1, none⟩ = some (.string a0_1) := (blk_cell BK107.out 1).trans rfl
           have hcz38_2 : wr.cell? ⟨gb107, 2, none⟩ = some (.int .i64 a0_2) := (blk_cell BK107.out 2).trans rfl
           have hfz38_0 := blk_frozen BK107.out 0
           have hfz38_1 := blk_frozen BK107.out 1
           have hfz38_2 := blk_frozen BK107.out 2
           have p31 : 0 ≤ (0 : Int) := (by omega)
           have q31 : 0 < a0_1.size := (by have : (0 : Int) < (a0_1.size : Int) := of_decide_eq_true (by first | (with_reducible assumption) | assumption); omega)
           have hx31 : ∀ h : 0 < a0_1.size, ((a0_1[0]'h).toNat : Int) = bt a0_1 0 := bt_at a0_1 0
           clear p31
           have qi31 : (0 < (a0_1.size : Int)) = True := eq_true (of_decide_eq_true (by first | (with_reducible assumption) | assumption))
           replace q31 := eq_true q31
           have p37 : 0 ≤ ((ji34) : Int) := of_decide_eq_true (by first | (with_reducible assumption) | assumption)
           have q37 : (ji34) < (a0_1.size : Int) := of_decide_eq_true (by first | (with_reducible assumption) | assumption)
           have hx37 := bt_at a0_1 (ji34)
           replace p37 := eq_true p37
           replace q37 := eq_true q37
           go_wp2
           go_meet
           case rel => exact ⟨_, (((bt a0_1 (ji34)) == 48)), (by first | rfl | (simp; done) | (simp only [← hji34] <;> (first | rfl | simp)) | (simp [*]; done)), (by first | (with_reducible exact H') | exact H' | (rw [hji34]; exact H') | (simp only [hji34]; exact H')), ⟨by have := HK1.out; first | omega | exact Nat.le_refl _⟩, ⟨by (with_reducible repeat (first | refine blk_drewN ?_ _ | refine blk_drew ?_ | refine blk_alloc ?_ _)); exact BK107.out⟩, ⟨by repeat (first | (with_reducible first | exact HB.out | apply below_alloc | apply pw_below_drewN | apply below_drew1 | refine below_set ?_ GE107.out) | exact HB.out)⟩⟩
          ·
           rw [if_neg c36] at H
           exact absurd H (by simp)
         ·
          rw [if_neg c35] at H
          exact absurd H (by simp)
       ·
        rw [if_neg c30] at H
        exact absurd H (by simp)
      ·
       rw [if_neg c29] at H
       have c29b0 : decide (0 < (a0_1.size : Int)) = false := decide_eq_false c29
       have c29b1 : decide (0 < a0_1.size) = false := decide_eq_false (by omega)
       clear c29
       have H' := Aside0.mk H
       clear H
       go_wp2
       go_meet
       case rel => exact ⟨_, (false), (by first | rfl | (simp; done) | (simp [*]; done) | (congr 1; unfold wrap64; omega)), H', ⟨by have := HK1.out; first | omega | exact Nat.le_refl _⟩, ⟨by (with_reducible repeat (first | refine blk_drewN ?_ _ | refine blk_drew ?_ | refine blk_alloc ?_ _)); exact BK107.out⟩, ⟨by repeat (first | (with_reducible first | exact HB.out | apply below_alloc | apply pw_below_drewN | apply below_drew1 | refine below_set ?_ GE107.out) | exact HB.out)⟩⟩
    case rest =>
     clear HC12
     try clear c1
     try clear p1
     try clear q1
     try clear hx1
     try clear qi1
     try clear c2
     try clear p2
     try clear q2
     try clear hx2
     try clear c3
     try clear p3
     try clear q3
     try clear hx3
     try clear qi3
     try clear c4
     try clear c4b0
     try clear c5
     try clear c5b0
     try clear c6
     try clear c6b0
     try clear p6
     try clear p7
     try clear q7
     try clear hx7
     try clear c9
     try clear c13
     try clear c13b0
     try clear c13b1
     try clear c14
     try clear c14b0
     try clear c14b1
     try clear c15
     try clear c17
     try clear c17b0
     try clear c17b1
     try clear c18
     try clear c18b0
     try clear c18b1
     try clear p19
     try clear q19
     try clear hx19
     try clear qi19
     try clear c20
     try clear c20b0
     try clear c20b1
     try clear c23
     try clear c23b0
     try clear c24
     try clear c24b0
     try clear c25
     try clear p25
     try clear q25
     try clear hx25
     try clear c29
     try clear c29b0
     try clear c29b1
     try clear c30
     try clear c30b0
     try clear c30b1
     try clear p31
     try clear q31
     try clear hx31
     try clear qi31
     try clear c32
     try clear c32b0
     try clear c32b1
     try clear c35
     try clear c35b0
     try clear c36
     try clear c36b0
     try clear p37
     try clear q37
     try clear hx37
     try clear hcz10_0
     try clear hcz10_1
     try clear hcz10_2
     try clear hcz11_0
     try clear hcz11_1
     try clear hcz11_2
     try clear hcz16_0
     try clear hcz16_1
     try clear hcz16_2
     try clear hcz21_0
     try clear hcz21_1
     try clear hcz21_2
     try clear hcz26_0
     try clear hcz26_1
     try clear hcz26_2
     try clear hcz27_0
     try clear hcz27_1
     try clear hcz27_2
     try clear hcz28_0
     try clear hcz28_1
     try clear hcz28_2
     try clear hcz33_0
     try clear hcz33_1
     try clear hcz33_2
     try clear hcz38_0
     try clear hcz38_1
     try clear hcz38_2
     try clear hcz3_0
     try clear hcz3_1
     try clear hcz3_2
     try clear hfz10_0
     try clear hfz10_1
     try clear hfz10_2
     try clear hfz11_0
     try clear hfz11_1
     try clear hfz11_2
     try clear hfz16_0
     try clear hfz16_1
     try clear hfz16_2
     try clear hfz21_0
     try clear hfz21_1
     try clear hfz21_2
     try clear hfz26_0
     try clear hfz26_1
     try clear hfz26_2
     try clear hfz27_0
     try clear hfz27_1
     try clear hfz27_2
     try clear hfz28_0
     try clear hfz28_1
     try clear hfz28_2
     try clear hfz33_0
     try clear hfz33_1
     try clear hfz33_2
     try clear hfz38_0
     try clear hfz38_1
     try clear hfz38_2
     try clear hfz3_0
     try clear hfz3_1
     try clear hfz3_2
     try clear p19
     try clear p2
     try clear p25
     try clear p31
     try clear p37
     try clear p7
     try clear q19
     try clear q25
     try clear q31
     try clear q37
     try clear q7
     obtain ⟨kq, x49_11, rfl, HA, HJ11, BK107, HB⟩ := hcut
     cases kq with
     | zero => exact absurd HA.out (by simp [emendref2_Join.j1])
     | succ kj11 =>
      have H := HA.out
      clear HA
      simp only [emendref2_Join.j1] at H
      by_cases c39 : x49_11 = true
      ·
       subst c39
       have H1 : (some ((⟨#[]⟩ : ByteArray), 1)) = some (r1, r2) := by rw [if_pos rfl] at H; exact H
       clear H
       have H := H1
       clear H1
       simp only [Option.some.injEq, Prod.mk.injEq] at H
       obtain ⟨rfl, rfl⟩ := H
       go_wp2
       go_ret2
       exact ⟨by first | rfl | (simp [errW_none, errW_some] <;> rfl) | (simp [*, errW_none, errW_some] <;> rfl), by repeat (first | (with_reducible first | exact HB.out | apply below_alloc | apply pw_below_drewN | apply below_drew1 | refine below_set ?_ GE107.out) | exact HB.out)⟩
      ·
       replace c39 := Bool.eq_false_iff.mpr c39
       subst c39
       have H1 : (if a0_2 > 999999 then (emendref2_Join.j2 kj11 (a0_1.size : Int) true a0_0 a0_1 a0_2) else (emendref2_Join.j2 kj11 (a0_1.size : Int) (decide (a0_2 < (-999999))) a0_0 a0_1 a0_2)) = some (r1, r2) := by rw [if_neg (show ¬ (false = true) by decide)] at H; exact H
       clear H
       have H := H1
       clear H1
       have HC40 := Aside0.mk H
       clear H
       go_upto_region 9 with (fail)
       go_cut [57] (fun v57 wc => ∃ (kq : Nat) (x57_39 : Bool), v57 = .bool x57_39 ∧ Aside0 (emendref2_Join.j2 kq (a0_1.size : Int) x57_39 a0_0 a0_1 a0_2 = some (r1, r2)) ∧ Aside0 (kq ≤ kj11) ∧ Aside0 (wc.heap[gb107]? = some (.cells #[.bool a0_0, .string a0_1, .int .i64 a0_2] 28 (0, 0))) ∧ Aside0 (Below w.heap.size w wc))
       case first =>
        have H := HC40.out
        clear HC40
        by_cases c41 : a0_2 > 999999
        ·
         rw [if_pos c41] at H
         have c41b0 : decide (999999 < a0_2) = true := decide_eq_true c41
         clear c41
         (first | rw [c41b0] | (simp only [i64_w, i32_w]; rw [c41b0]) | skip)
         have H' := Aside0.mk H
         clear H
         have hcz42_0 : wc.cell? ⟨gb107, 0, none⟩ = some (.bool a0_0) := (blk_cell BK107.out 0).trans rfl
         have hcz42_1 : wc.cell? ⟨gb107, 1, none⟩ = some (.string a0_1) := (blk_cell BK107.out 1).trans rfl
         have hcz42_2 : wc.cell? ⟨gb107, 2, none⟩ = some (.int .i64 a0_2) := (blk_cell BK107.out 2).trans rfl
         have hfz42_0 := blk_frozen BK107.out 0
         have hfz42_1 := blk_frozen BK107.out 1
         have hfz42_2 := blk_frozen BK107.out 2
         go_wp2
         go_meet
         case rel => exact ⟨_, (true), (by first | rfl | (simp; done) | (simp [*]; done) | (congr 1; unfold wrap64; omega)), H', ⟨by have := HK1.out; have := HJ11.out; first | omega | exact Nat.le_refl _⟩, ⟨by (with_reducible repeat (first | refine blk_drewN ?_ _ | refine blk_drew ?_ | refine blk_alloc ?_ _)); exact BK107.out⟩, ⟨by repeat (first | (with_reducible first | exact HB.out | apply below_alloc | apply pw_below_drewN | apply below_drew1 | refine below_set ?_ GE107.out) | exact HB.out)⟩⟩
        ·
         rw [if_neg c41] at H
         have c41b0 : decide (999999 < a0_2) = false := decide_eq_false c41
         clear c41
         (first | rw [c41b0] | (simp only [i64_w, i32_w]; rw [c41b0]) | skip)
         have H' := Aside0.mk H
         clear H
         have hcz43_0 : wc.cell? ⟨gb107, 0, none⟩ = some (.bool a0_0) := (blk_cell BK107.out 0).trans rfl
         have hcz43_1 : wc.cell? ⟨gb107, 1, none⟩ = some (.string a0_1) := (blk_cell BK107.out 1).trans rfl
         have hcz43_2 : wc.cell? ⟨gb107, 2, none⟩ = some (.int .i64 a0_2) := (blk_cell BK107.out 2).trans rfl
         have hfz43_0 := blk_frozen BK107.out 0
         have hfz43_1 := blk_frozen BK107.out 1
         have hfz43_2 := blk_frozen BK107.out 2
         go_wp2
         go_meet
         case rel => exact ⟨_, (decide (a0_2 < (-999999))), (by first | rfl | (simp; done) | (simp [*]; done) | (congr 1; unfold wrap64; omega)), H', ⟨by have := HK1.out; have := HJ11.out; first | omega | exact Nat.le_refl _⟩, ⟨by (with_reducible repeat (first | refine blk_drewN ?_ _ | refine blk_drew ?_ | refine blk_alloc ?_ _)); exact BK107.out⟩, ⟨by repeat (first | (with_reducible first | exact HB.out | apply below_alloc | apply pw_below_drewN | apply below_drew1 | refine below_set ?_ GE107.out) | exact HB.out)⟩⟩
       case rest =>
        clear HC40
        try clear c1
        try clear p1
        try clear q1
        try clear hx1
        try clear qi1
        try clear c2
        try clear p2
        try clear q2
        try clear hx2
        try clear c3
        try clear p3
        try clear q3
        try clear hx3
        try clear qi3
        try clear c4
        try clear c4b0
        try clear c5
        try clear c5b0
        try clear c6
        try clear c6b0
        try clear p6
        try clear p7
        try clear q7
        try clear hx7
        try clear c9
        try clear c13
        try clear c13b0
        try clear c13b1
        try clear c14
        try clear c14b0
        try clear c14b1
        try clear c15
        try clear c17
        try clear c17b0
        try clear c17b1
        try clear c18
        try clear c18b0
        try clear c18b1
        try clear p19
        try clear q19
        try clear hx19
        try clear qi19
        try clear c20
        try clear c20b0
        try clear c20b1
        try clear c23
        try clear c23b0
        try clear c24
        try clear c24b0
        try clear c25
        try clear p25
        try clear q25
        try clear hx25
        try clear c29
        try clear c29b0
        try clear c29b1
        try clear c30
        try clear c30b0
        try clear c30b1
        try clear p31
        try clear q31
        try clear hx31
        try clear qi31
        try clear c32
        try clear c32b0
        try clear c32b1
        try clear c35
        try clear c35b0
        try clear c36
        try clear c36b0
        try clear p37
        try clear q37
        try clear hx37
        try clear c39
        try clear c41
        try clear c41b0
        try clear hcz10_0
        try clear hcz10_1
        try clear hcz10_2
        try clear hcz11_0
        try clear hcz11_1
        try clear hcz11_2
        try clear hcz16_0
        try clear hcz16_1
        try clear hcz16_2
        try clear hcz21_0
        try clear hcz21_1
        try clear hcz21_2
        try clear hcz26_0
        try clear hcz26_1
        try clear hcz26_2
        try clear hcz27_0
        try clear hcz27_1
        try clear hcz27_2
        try clear hcz28_0
        try clear hcz28_1
        try clear hcz28_2
        try clear hcz33_0
        try clear hcz33_1
        try clear hcz33_2
        try clear hcz38_0
        try clear hcz38_1
        try clear hcz38_2
        try clear hcz3_0
        try clear hcz3_1
        try clear hcz3_2
        try clear hcz42_0
        try clear hcz42_1
        try clear hcz42_2
        try clear hcz43_0
        try clear hcz43_1
        try clear hcz43_2
        try clear hfz10_0
        try clear hfz10_1
        try clear hfz10_2
        try clear hfz11_0
        try clear hfz11_1
        try clear hfz11_2
        try clear hfz16_0
        try clear hfz16_1
        try clear hfz16_2
        try clear hfz21_0
        try clear hfz21_1
        try clear hfz21_2
        try clear hfz26_0
        try clear hfz26_1
        try clear hfz26_2
        try clear hfz27_0
        try clear hfz27_1
        try clear hfz27_2
        try clear hfz28_0
        try clear hfz28_1
        try clear hfz28_2
        try clear hfz33_0
        try clear hfz33_1
        try clear hfz33_2
        try clear hfz38_0
        try clear hfz38_1
        try clear hfz38_2
        try clear hfz3_0
        try clear hfz3_1
        try clear hfz3_2
        try clear hfz42_0
        try clear hfz42_1
        try clear hfz42_2
        try clear hfz43_0
        try clear hfz43_1
        try clear hfz43_2
        try clear p1
        try clear p19
        try clear p2
        try clear p25
        try clear p3
        try clear p31
        try clear p37
        try clear p6
        try clear p7
        try clear q1
        try clear q19
        try clear q2
        try clear q25
        try clear q3
        try clear q31
        try clear q37
        try clear q7
        obtain ⟨kq, x57_39, rfl, HA, HJ39, BK107, HB⟩ := hcut
        cases kq with
        | zero => exact absurd HA.out (by simp [emendref2_Join.j2])
        | succ kj39 =>
         have H := HA.out
         clear HA
         simp only [emendref2_Join.j2] at H
         by_cases c44 : x57_39 = true
         ·
          subst c44
          have H1 : (some ((⟨#[]⟩ : ByteArray), 5)) = some (r1, r2) := by rw [if_pos rfl] at H; exact H
          clear H
          have H := H1
          clear H1
          simp only [Option.some.injEq, Prod.mk.injEq] at H
          obtain ⟨rfl, rfl⟩ := H
          go_wp2
          go_ret2
          exact ⟨by first | rfl | (simp [errW_none, errW_some] <;> rfl) | (simp [*, errW_none, errW_some] <;> rfl), by repeat (first | (with_reducible first | exact HB.out | apply below_alloc | apply pw_below_drewN | apply below_drew1 | refine below_set ?_ GE107.out) | exact HB.out)⟩
         ·
          replace c44 := Bool.eq_false_iff.mpr c44
          subst c44
          have H1 : (if (a0_1.size : Int) = 0 then (some ((⟨#[48]⟩ : ByteArray), 0)) else (if a0_0 = true then (if 1 + a0_1.size ≤ 9223372036854775807 then (emendref2_Join.j3 kj39 ((⟨#[45]⟩ : ByteArray) ++ a0_1) a0_0 a0_1 a0_2) else (none)) else (emendref2_Join.j3 kj39 a0_1 a0_0 a0_1 a0_2))) = some (r1, r2) := by rw [if_neg (show ¬ (false = true) by decide)] at H; exact H
          clear H
          have H := H1
          clear H1
          by_cases c45 : (a0_1.size : Int) = 0
          ·
           rw [if_pos c45] at H
           have c45b0 : ((a0_1.size : Int) == 0) = true := beq_iff_eq.mpr c45
           have c45b1 : ((a0_1.size : Int) != 0) = false := bne_eq_false_iff_eq.mpr c45
           clear c45
           simp only [Option.some.injEq, Prod.mk.injEq] at H
           obtain ⟨rfl, rfl⟩ := H
           go_wp2
           go_ret2
           exact ⟨by first | rfl | (simp [errW_none, errW_some] <;> rfl) | (simp [*, errW_none, errW_some] <;> rfl), by repeat (first | (with_reducible first | exact HB.out | apply below_alloc | apply pw_below_drewN | apply below_drew1 | refine below_set ?_ GE107.out) | exact HB.out)⟩
          ·
           rw [if_neg c45] at H
           have c45b0 : ((a0_1.size : Int) == 0) = false := beq_eq_false_iff_ne.mpr c45
           have c45b1 : ((a0_1.size : Int) != 0) = true := bne_iff_ne.mpr c45
           have HC46 := Aside0.mk H
           clear H
           have hcz47_0 : wc.cell? ⟨gb107, 0, none⟩ = some (.bool a0_0) := (blk_cell BK107.out 0).trans rfl
           have hcz47_1 : wc.cell? ⟨gb107, 1, none⟩ = some (.string a0_1) := (blk_cell BK107.out 1).trans rfl
           have hcz47_2 : wc.cell? ⟨gb107, 2, none⟩ = some (.int .i64 a0_2) := (blk_cell BK107.out 2).trans rfl
           have hfz47_0 := blk_frozen BK107.out 0
           have hfz47_1 := blk_frozen BK107.out 1
           have hfz47_2 := blk_frozen BK107.out 2
           go_upto_if 63 with (fail)
           go_cut [6] (fun v6 wc => ∃ (kq : Nat) (x6_45 : ByteArray), v6 = .string x6_45 ∧ Aside0 (emendref2_Join.j3 kq x6_45 a0_0 a0_1 a0_2 = some (r1, r2)) ∧ Aside0 (kq ≤ kj39) ∧ Aside0 (wc.heap[gb107]? = some (.cells #[.bool a0_0, .string a0_1, .int .i64 a0_2] 28 (0, 0))) ∧ Aside0 (Below w.heap.size w wc))
           case first =>
            have H := HC46.out
            clear HC46
            by_cases c48 : a0_0 = true
            ·
             subst c48
             have H1 : (if 1 + a0_1.size ≤ 9223372036854775807 then (emendref2_Join.j3 kj39 ((⟨#[45]⟩ : ByteArray) ++ a0_1) true a0_1 a0_2) else (none)) = some (r1, r2) := by rw [if_pos rfl] at H; exact H
             clear H
             have H := H1
             clear H1
             by_cases c49 : 1 + a0_1.size ≤ 9223372036854775807
             ·
              rw [if_pos c49] at H
              have c49b0 := eq_true c49
              have c49b1 : decide (1 + a0_1.size ≤ 9223372036854775807) = true := decide_eq_true c49
              try have c49b2 : (9223372036854775807 < 1 + a0_1.size) = False := eq_false (Nat.not_lt.2 c49)
              have H' := Aside0.mk H
              clear H
              go_wp2
              go_meet
              case rel => exact ⟨_, ((⟨#[45]⟩ : ByteArray) ++ a0_1), (by first | rfl | (simp; done) | (simp [*]; done) | (congr 1; unfold wrap64; omega)), H', ⟨by have := HK1.out; have := HJ11.out; have := HJ39.out; first | omega | exact Nat.le_refl _⟩, ⟨by (with_reducible repeat (first | refine blk_drewN ?_ _ | refine blk_drew ?_ | refine blk_alloc ?_ _)); exact BK107.out⟩, ⟨by repeat (first | (with_reducible first | exact HB.out | apply below_alloc | apply pw_below_drewN | apply below_drew1 | refine below_set ?_ GE107.out) | exact HB.out)⟩⟩
             ·
              rw [if_neg c49] at H
              exact absurd H (by simp)
            ·
             replace c48 := Bool.eq_false_iff.mpr c48
             subst c48
             have H1 : (emendref2_Join.j3 kj39 a0_1 false a0_1 a0_2) = some (r1, r2) := by rw [if_neg (show ¬ (false = true) by decide)] at H; exact H
             clear H
             have H := H1
             clear H1
             have H' := Aside0.mk H
             clear H
             go_wp2
             go_meet
             case rel => exact ⟨_, (a0_1), (by first | rfl | (simp; done) | (simp [*]; done) | (congr 1; unfold wrap64; omega)), H', ⟨by have := HK1.out; have := HJ11.out; have := HJ39.out; first | omega | exact Nat.le_refl _⟩, ⟨by (with_reducible repeat (first | refine blk_drewN ?_ _ | refine blk_drew ?_ | refine blk_alloc ?_ _)); exact BK107.out⟩, ⟨by repeat (first | (with_reducible first | exact HB.out | apply below_alloc | apply pw_below_drewN | apply below_drew1 | refine below_set ?_ GE107.out) | exact HB.out)⟩⟩
           case rest =>
            clear HC46
            try clear c1
            try clear p1
            try clear q1
            try clear hx1
            try clear qi1
            try clear c2
            try clear p2
            try clear q2
            try clear hx2
            try clear c3
            try clear p3
            try clear q3
            try clear hx3
            try clear qi3
            try clear c4
            try clear c4b0
            try clear c5
            try clear c5b0
            try clear c6
            try clear c6b0
            try clear p6
            try clear p7
            try clear q7
            try clear hx7
            try clear c9
            try clear c13
            try clear c13b0
            try clear c13b1
            try clear c14
            try clear c14b0
            try clear c14b1
            try clear c15
            try clear c17
            try clear c17b0
            try clear c17b1
            try clear c18
            try clear c18b0
            try clear c18b1
            try clear p19
            try clear q19
            try clear hx19
            try clear qi19
            try clear c20
            try clear c20b0
            try clear c20b1
            try clear c23
            try clear c23b0
            try clear c24
            try clear c24b0
            try clear c25
            try clear p25
            try clear q25
            try clear hx25
            try clear c29
            try clear c29b0
            try clear c29b1
            try clear c30
            try clear c30b0
            try clear c30b1
            try clear p31
            try clear q31
            try clear hx31
            try clear qi31
            try clear c32
            try clear c32b0
            try clear c32b1
            try clear c35
            try clear c35b0
            try clear c36
            try clear c36b0
            try clear p37
            try clear q37
            try clear hx37
            try clear c39
            try clear c41
            try clear c41b0
            try clear c44
            try clear c45
            try clear c45b0
            try clear c45b1
            try clear c48
            try clear c49
            try clear c49b0
            try clear c49b1
            try clear c49b2
            try clear hcz10_0
            try clear hcz10_1
            try clear hcz10_2
            try clear hcz11_0
            try clear hcz11_1
            try clear hcz11_2
            try clear hcz16_0
            try clear hcz16_1
            try clear hcz16_2
            try clear hcz21_0
            try clear hcz21_1
            try clear hcz21_2
            try clear hcz26_0
            try clear hcz26_1
            try clear hcz26_2
            try clear hcz27_0
            try clear hcz27_1
            try clear hcz27_2
            try clear hcz28_0
            try clear hcz28_1
            try clear hcz28_2
            try clear hcz33_0
            try clear hcz33_1
            try clear hcz33_2
            try clear hcz38_0
            try clear hcz38_1
            try clear hcz38_2
            try clear hcz3_0
            try clear hcz3_1
            try clear hcz3_2
            try clear hcz42_0
            try clear hcz42_1
            try clear hcz42_2
            try clear hcz43_0
            try clear hcz43_1
            try clear hcz43_2
            try clear hcz47_0
            try clear hcz47_1
            try clear hcz47_2
            try clear hfz10_0
            try clear hfz10_1
            try clear hfz10_2
            try clear hfz11_0
            try clear hfz11_1
            try clear hfz11_2
            try clear hfz16_0
            try clear hfz16_1
            try clear hfz16_2
            try clear hfz21_0
            try clear hfz21_1
            try clear hfz21_2
            try clear hfz26_0
            try clear hfz26_1
            try clear hfz26_2
            try clear hfz27_0
            try clear hfz27_1
            try clear hfz27_2
            try clear hfz28_0
            try clear hfz28_1
            try clear hfz28_2
            try clear hfz33_0
            try clear hfz33_1
            try clear hfz33_2
            try clear hfz38_0
            try clear hfz38_1
            try clear hfz38_2
            try clear hfz3_0
            try clear hfz3_1
            try clear hfz3_2
            try clear hfz42_0
            try clear hfz42_1
            try clear hfz42_2
            try clear hfz43_0
            try clear hfz43_1
            try clear hfz43_2
            try clear hfz47_0
            try clear hfz47_1
            try clear hfz47_2
            try clear p1
            try clear p19
            try clear p2
            try clear p25
            try clear p3
            try clear p31
            try clear p37
            try clear p6
            try clear p7
            try clear q1
            try clear q19
            try clear q2
            try clear q25
            try clear q3
            try clear q31
            try clear q37
            try clear q7
            obtain ⟨kq, x6_45, rfl, HA, HJ45, BK107, HB⟩ := hcut
            cases kq with
            | zero => exact absurd HA.out (by simp [emendref2_Join.j3])
            | succ kj45 =>
             have H := HA.out
             clear HA
             simp only [emendref2_Join.j3] at H
             by_cases c50 : a0_2 = 0
             ·
              rw [if_pos c50] at H
              have c50b0 : (a0_2 == 0) = true := beq_iff_eq.mpr c50
              have c50b1 : (a0_2 != 0) = false := bne_eq_false_iff_eq.mpr c50
              clear c50
              by_cases c51 : (x6_45.size : Int) > 1000
              ·
               rw [if_pos c51] at H
               have c51b0 : decide (1000 < (x6_45.size : Int)) = true := decide_eq_true c51
               have c51b1 : decide (1000 < x6_45.size) = true := decide_eq_true (by omega)
               clear c51
               simp only [Option.some.injEq, Prod.mk.injEq] at H
               obtain ⟨rfl, rfl⟩ := H
               have hcz52_0 : wc.cell? ⟨gb107, 0, none⟩ = some (.bool a0_0) := (blk_cell BK107.out 0).trans rfl
               have hcz52_1 : wc.cell? ⟨gb107, 1, none⟩ = some (.string a0_1) := (blk_cell BK107.out 1).trans rfl
               have hcz52_2 : wc.cell? ⟨gb107, 2, none⟩ = some (.int .i64 a0_2) := (blk_cell BK107.out 2).trans rfl
               have hfz52_0 := blk_frozen BK107.out 0
               have hfz52_1 := blk_frozen BK107.out 1
               have hfz52_2 := blk_frozen BK107.out 2
               go_wp2
               go_ret2
               exact ⟨by first | rfl | (simp [errW_none, errW_some] <;> rfl) | (simp [*, errW_none, errW_some] <;> rfl), by repeat (first | (with_reducible first | exact HB.out | apply below_alloc | apply pw_below_drewN | apply below_drew1 | refine below_set ?_ GE107.out) | exact HB.out)⟩
              ·
               rw [if_neg c51] at H
               have c51b0 : decide (1000 < (x6_45.size : Int)) = false := decide_eq_false c51
               have c51b1 : decide (1000 < x6_45.size) = false := decide_eq_false (by omega)
               clear c51
               simp only [Option.some.injEq, Prod.mk.injEq] at H
               obtain ⟨rfl, rfl⟩ := H
               have hcz53_0 : wc.cell? ⟨gb107, 0, none⟩ = some (.bool a0_0) := (blk_cell BK107.out 0).trans rfl
               have hcz53_1 : wc.cell? ⟨gb107, 1, none⟩ = some (.string a0_1) := (blk_cell BK107.out 1).trans rfl
               have hcz53_2 : wc.cell? ⟨gb107, 2, none⟩ = some (.int .i64 a0_2) := (blk_cell BK107.out 2).trans rfl
               have hfz53_0 := blk_frozen BK107.out 0
               have hfz53_1 := blk_frozen BK107.out 1
               have hfz53_2 := blk_frozen BK107.out 2
               go_wp2
               go_ret2
               exact ⟨by first | rfl | (simp [errW_none, errW_some] <;> rfl) | (simp [*, errW_none, errW_some] <;> rfl), by repeat (first | (with_reducible first | exact HB.out | apply below_alloc | apply pw_below_drewN | apply below_drew1 | refine below_set ?_ GE107.out) | exact HB.out)⟩
             ·
              rw [if_neg c50] at H
              have c50b0 : (a0_2 == 0) = false := beq_eq_false_iff_ne.mpr c50
              have c50b1 : (a0_2 != 0) = true := bne_iff_ne.mpr c50
              by_cases c54 : x6_45.size + 1 ≤ 9223372036854775807
              ·
               rw [if_pos c54] at H
               have c54b0 := eq_true c54
               have c54b1 : decide (x6_45.size + 1 ≤ 9223372036854775807) = true := decide_eq_true c54
               try have c54b2 : (9223372036854775807 < x6_45.size + 1) = False := eq_false (Nat.not_lt.2 c54)
               replace H := Option.bind_eq_some_iff.mp H
               obtain ⟨t109, A550, H⟩ := H
               replace H : (if (x6_45 ++ (⟨#[101]⟩ : ByteArray)).size + t109.size ≤ 9223372036854775807 then (if (((x6_45 ++ (⟨#[101]⟩ : ByteArray)) ++ t109).size : Int) > 1000 then (some ((⟨#[]⟩ : ByteArray), 2)) else (some ((x6_45 ++ (⟨#[101]⟩ : ByteArray)) ++ t109, 0))) else (none)) = some (r1, r2) := H
               have A55 := Aside0.mk A550
               clear A550
               by_cases c56 : (x6_45 ++ (⟨#[101]⟩ : ByteArray)).size + t109.size ≤ 9223372036854775807
               ·
                rw [if_pos c56] at H
                have c56b0 := eq_true c56
                have c56b1 : decide ((x6_45 ++ (⟨#[101]⟩ : ByteArray)).size + t109.size ≤ 9223372036854775807) = true := decide_eq_true c56
                try have c56b1s := c56b1
                try simp only [ByteArray.size_append, show (⟨#[101]⟩ : ByteArray).size = 1 from rfl] at c56b1s
                try have c56b1t := c56b1s
                try push_cast at c56b1t
                try have c56b2 : (9223372036854775807 < (x6_45 ++ (⟨#[101]⟩ : ByteArray)).size + t109.size) = False := eq_false (Nat.not_lt.2 c56)
                try have c56b2s := c56b2
                try simp only [ByteArray.size_append, show (⟨#[101]⟩ : ByteArray).size = 1 from rfl] at c56b2s
                try have c56b2t := c56b2s
                try push_cast at c56b2t
                by_cases c57 : (((x6_45 ++ (⟨#[101]⟩ : ByteArray)) ++ t109).size : Int) > 1000
                ·
                 rw [if_pos c57] at H
                 have c57b0 : decide (1000 < (((x6_45 ++ (⟨#[101]⟩ : ByteArray)) ++ t109).size : Int)) = true := decide_eq_true c57
                 try have c57b0s := c57b0
                 try simp only [ByteArray.size_append, show (⟨#[101]⟩ : ByteArray).size = 1 from rfl] at c57b0s
                 try have c57b0t := c57b0s
                 try push_cast at c57b0t
                 have c57b1 : decide (1000 < ((x6_45 ++ (⟨#[101]⟩ : ByteArray)) ++ t109).size) = true := decide_eq_true (by omega)
                 try have c57b1s := c57b1
                 try simp only [ByteArray.size_append, show (⟨#[101]⟩ : ByteArray).size = 1 from rfl] at c57b1s
                 try have c57b1t := c57b1s
                 try push_cast at c57b1t
                 clear c57
                 simp only [Option.some.injEq, Prod.mk.injEq] at H
                 obtain ⟨rfl, rfl⟩ := H
                 have hcz58_0 : wc.cell? ⟨gb107, 0, none⟩ = some (.bool a0_0) := (blk_cell BK107.out 0).trans rfl
                 have hcz58_1 : wc.cell? ⟨gb107, 1, none⟩ = some (.string a0_1) := (blk_cell BK107.out 1).trans rfl
                 have hcz58_2 : wc.cell? ⟨gb107, 2, none⟩ = some (.int .i64 a0_2) := (blk_cell BK107.out 2).trans rfl
                 have hfz58_0 := blk_frozen BK107.out 0
                 have hfz58_1 := blk_frozen BK107.out 1
                 have hfz58_2 := blk_frozen BK107.out 2
                 go_wp2_with (first | ((with_reducible refine gate_callee (f := 52) rfl ?_); refine goesL_ (some 73) rfl rfl Tryz.func52 (by kernel_rfl) rfl #[.int .i64 a0_2] rfl (by (try simp only [List.map_toArray, List.map_cons, List.map_nil]); first | done | rfl | (simp only [List.length_drop, List.length_take]; rfl)) ?_; (with_reducible refine (emendref2_Decimal.calls a0_2 t109 _ A55.out).mono ?_); rintro e w59 ⟨rfl, hb⟩; refine ⟨_, rfl, ?_⟩; have n0_ := Aside0.mk (blk_below (g := gb107) (o := .cells #[.bool a0_0, .string a0_1, .int .i64 a0_2] 28 (0, 0)) (by (with_reducible repeat (first | refine blk_drewN ?_ _ | refine blk_drew ?_ | refine blk_alloc ?_ _)); exact BK107.out) hb); have n1_ := Aside0.mk (below_step (by repeat (first | (with_reducible first | exact HB.out | apply below_alloc | apply pw_below_drewN | apply below_drew1 | refine below_set ?_ GE107.out) | exact HB.out)) hb); clear BK107; clear HB; have BK107 := n0_; have HB := n1_; clear n0_ n1_; (try clear hb); (try clear hb2); (try clear hk); (try clear hi)))
                 go_ret2
                 exact ⟨by first | rfl | (simp [errW_none, errW_some] <;> rfl) | (simp [*, errW_none, errW_some] <;> rfl), by repeat (first | (with_reducible first | exact HB.out | apply below_alloc | apply pw_below_drewN | apply below_drew1 | refine below_set ?_ GE107.out) | exact HB.out)⟩
                ·
                 rw [if_neg c57] at H
                 have c57b0 : decide (1000 < (((x6_45 ++ (⟨#[101]⟩ : ByteArray)) ++ t109).size : Int)) = false := decide_eq_false c57
                 try have c57b0s := c57b0
                 try simp only [ByteArray.size_append, show (⟨#[101]⟩ : ByteArray).size = 1 from rfl] at c57b0s
                 try have c57b0t := c57b0s
                 try push_cast at c57b0t
                 have c57b1 : decide (1000 < ((x6_45 ++ (⟨#[101]⟩ : ByteArray)) ++ t109).size) = false := decide_eq_false (by omega)
                 try have c57b1s := c57b1
                 try simp only [ByteArray.size_append, show (⟨#[101]⟩ : ByteArray).size = 1 from rfl] at c57b1s
                 try have c57b1t := c57b1s
                 try push_cast at c57b1t
                 clear c57
                 simp only [Option.some.injEq, Prod.mk.injEq] at H
                 obtain ⟨rfl, rfl⟩ := H
                 have hcz60_0 : wc.cell? ⟨gb107, 0, none⟩ = some (.bool a0_0) := (blk_cell BK107.out 0).trans rfl
                 have hcz60_1 : wc.cell? ⟨gb107, 1, none⟩ = some (.string a0_1) := (blk_cell BK107.out 1).trans rfl
                 have hcz60_2 : wc.cell? ⟨gb107, 2, none⟩ = some (.int .i64 a0_2) := (blk_cell BK107.out 2).trans rfl
                 have hfz60_0 := blk_frozen BK107.out 0
                 have hfz60_1 := blk_frozen BK107.out 1
                 have hfz60_2 := blk_frozen BK107.out 2
                 go_wp2_with (first | ((with_reducible refine gate_callee (f := 52) rfl ?_); refine goesL_ (some 73) rfl rfl Tryz.func52 (by kernel_rfl) rfl #[.int .i64 a0_2] rfl (by (try simp only [List.map_toArray, List.map_cons, List.map_nil]); first | done | rfl | (simp only [List.length_drop, List.length_take]; rfl)) ?_; (with_reducible refine (emendref2_Decimal.calls a0_2 t109 _ A55.out).mono ?_); rintro e w61 ⟨rfl, hb⟩; refine ⟨_, rfl, ?_⟩; have n0_ := Aside0.mk (blk_below (g := gb107) (o := .cells #[.bool a0_0, .string a0_1, .int .i64 a0_2] 28 (0, 0)) (by (with_reducible repeat (first | refine blk_drewN ?_ _ | refine blk_drew ?_ | refine blk_alloc ?_ _)); exact BK107.out) hb); have n1_ := Aside0.mk (below_step (by repeat (first | (with_reducible first | exact HB.out | apply below_alloc | apply pw_below_drewN | apply below_drew1 | refine below_set ?_ GE107.out) | exact HB.out)) hb); clear BK107; clear HB; have BK107 := n0_; have HB := n1_; clear n0_ n1_; (try clear hb); (try clear hb2); (try clear hk); (try clear hi)))
                 go_ret2
                 exact ⟨by first | rfl | (simp [errW_none, errW_some] <;> rfl) | (simp [*, errW_none, errW_some] <;> rfl), by repeat (first | (with_reducible first | exact HB.out | apply below_alloc | apply pw_below_drewN | apply below_drew1 | refine below_set ?_ GE107.out) | exact HB.out)⟩
               ·
                rw [if_neg c56] at H
                exact absurd H (by simp)
              ·
               rw [if_neg c54] at H
               exact absurd H (by simp)

end Go.Proofs.YtjaongknagmfiaaGreatDoor.PW
