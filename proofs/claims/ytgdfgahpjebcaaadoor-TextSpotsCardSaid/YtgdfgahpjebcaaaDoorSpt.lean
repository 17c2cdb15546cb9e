/-
  emendlaw1.TextSpots, walked. PRINTED by gen_spt.py.
-/
import Derived.Test.YtgdfgahpjebcaaaDoorSpw
import Derived.Test.YtgdfgahpjebcaaaDoorSiz
import Derived.Deep.RegionHeld
set_option linter.unusedSimpArgs false
set_option linter.unusedVariables false
namespace Go.Proofs.YtgdfgahpjebcaaaDoor
open Go.RowKit Go.Proofs.YtgdfgahpjebcaaaDoorW.PrintWords Go.Proofs.YtgdfgahpjebcaaaDoor.PT

theorem cell_at {w : World} {g : Nat} {cs : Array Value} {t : TypeId} (h : w.heap[g]? = some (.cells cs t (0, 0))) (j : Nat) (v : Value) (hv : cs[j]? = some v) : w.cell? ⟨g, j, none⟩ = some v := (Lib.cell_of_heap h j).trans hv

set_option maxHeartbeats 8000000 in
set_option maxRecDepth 100000 in
theorem spots_true (s0 : ByteArray) (pa line col : Int) (w : World) (he : Env w) (l : List Int) (er : Option Nat) (h : Scan (fewI s0 2000) 0 l er) :
    Calls Tryd.prog 6 #[.string s0, .int .i64 pa, .int .i64 line, .int .i64 col] w fun e w' => e = .returned (.bool true) ∧ Below w.heap.size w w' := by
  have hsz := few_size s0 2000
  obtain ⟨s, hs⟩ : ∃ s, fewI s0 2000 = s := ⟨_, rfl⟩
  rw [hs] at h hsz
  have HS := Aside0.mk hs
  have HH := Aside0.mk h
  obtain ⟨r0, hr0⟩ := within_f pa (s.size : Int) (by omega) (by omega)
  obtain ⟨r1, hr1⟩ := within_f line 4 (by omega) (by omega)
  obtain ⟨r2, hr2⟩ := within_f col 12 (by omega) (by omega)
  have HR0 := Aside0.mk hr0
  have HR1 := Aside0.mk hr1
  have HR2 := Aside0.mk hr2
  clear hs h hr0 hr1 hr2
  go_enter Tryd.func6, Tryd.ntmps6
  go_wp2_with (first
    | (go_at_call 24; (with_reducible refine (emendlaw1_few.calls s0 2000 _ _ (few_f s0 2000)).mono ?_); rintro e w1 ⟨rfl, ⟨nd, rfl⟩⟩; rw [HS.out])
    | (go_at_call 34; (with_reducible refine (emendbook_Within.calls _ _ _ _ _ HR0.out).mono ?_); rintro e w1 ⟨rfl, ⟨nd2, rfl⟩⟩))
  go_loopg [10] 4 (fun kq v10 w' => ∃ i : Nat, v10 = .int .i64 i ∧ Aside0 (kq = 4 - i ∧ i ≤ 4) ∧ Aside0 (w'.heap[w.heap.size]? = some (.cells #[.int .i64 pa, .int .i64 r0, .int .i64 (s.size : Int), .int .i64 (-1)] 3 (0, 0))) ∧ Aside0 (Below w.heap.size w w'))
  case atStart => exact ⟨0, rfl, ⟨rfl, by omega⟩, ⟨heap_alloc_new (w.drewN _) _⟩, ⟨bl_alloc (bl_drewN (Below.refl _ _) _) _⟩⟩
  case round =>
    obtain ⟨i, rfl, HI, HL, HB⟩ := hrel
    obtain ⟨hk, hi4⟩ := HI.out
    have hwz := HB.out.size
    have hi : i = 0 ∨ i = 1 ∨ i = 2 ∨ i = 3 ∨ i = 4 := by omega
    rcases hi with rfl | rfl | rfl | rfl | rfl
    · obtain ⟨a, b, c, habc⟩ : ∃ a b c, spotS s pa l er = (a, b, c) := ⟨_, _, _, rfl⟩
      have HSP := Aside0.mk habc
      have HK := Aside0.mk hk
      have m0 := cell_at HL.out 0 (.int .i64 pa) rfl
      have HM := Aside0.mk HL.out
      clear habc hk HI
      have e1 : (a == a) = true := by simp
      have e2 : (b == b) = true := by simp
      have e3 : (c == c) = true := by simp
      go_wp2_with (first
        | (go_at_call 16; (with_reducible refine (spotof_any s pa a b c l er _ (by omega) HH.out HSP.out).mono ?_); rintro e w1 ⟨rfl, hc1⟩; have hl1 := below_heap hc1 HL.out; have m1 := cell_at hl1 0 (.int .i64 pa) rfl; have HL1 := Aside0.mk hl1; clear hl1; have hm1 := below_heap (bl_alloc (Below.refl w1.heap.size w1) (.cells #[.int .i64 a, .int .i64 b] 33)) HL1.out; have m2 := cell_at hm1 0 (.int .i64 pa) rfl; have HL2 := Aside0.mk hm1; clear hm1)
        | (go_at_call 35; (with_reducible refine (rspotof_any s pa a b c l er _ (by omega) HH.out HSP.out).mono ?_); rintro e w2 ⟨rfl, hc2⟩; have hp2 := below_heap hc2 (heap_alloc_new w1 _); have p0 := cell_at0 hp2; have p1 := cell_at1 hp2; have HL3 := Aside0.mk (below_heap hc2 HL2.out); have HC2 := Aside0.mk hc2; clear hp2 hc2))
      go_roundg 3
      case measure => have := HK.out; omega
      case rel => exact ⟨1, by go_num, ⟨rfl, by omega⟩, ⟨HL3.out⟩, ⟨bl_trans (bl_alloc (bl_trans HB.out hc1) _) HC2.out⟩⟩
    · obtain ⟨a, b, c, habc⟩ : ∃ a b c, spotS s r0 l er = (a, b, c) := ⟨_, _, _, rfl⟩
      have HSP := Aside0.mk habc
      have HK := Aside0.mk hk
      have m0 := cell_at HL.out 1 (.int .i64 r0) rfl
      have HM := Aside0.mk HL.out
      clear habc hk HI
      have e1 : (a == a) = true := by simp
      have e2 : (b == b) = true := by simp
      have e3 : (c == c) = true := by simp
      go_wp2_with (first
        | (go_at_call 16; (with_reducible refine (spotof_any s r0 a b c l er _ (by omega) HH.out HSP.out).mono ?_); rintro e w1 ⟨rfl, hc1⟩; have hl1 := below_heap hc1 HL.out; have m1 := cell_at hl1 1 (.int .i64 r0) rfl; have HL1 := Aside0.mk hl1; clear hl1; have hm1 := below_heap (bl_alloc (Below.refl w1.heap.size w1) (.cells #[.int .i64 a, .int .i64 b] 33)) HL1.out; have m2 := cell_at hm1 1 (.int .i64 r0) rfl; have HL2 := Aside0.mk hm1; clear hm1)
        | (go_at_call 35; (with_reducible refine (rspotof_any s r0 a b c l er _ (by omega) HH.out HSP.out).mono ?_); rintro e w2 ⟨rfl, hc2⟩; have hp2 := below_heap hc2 (heap_alloc_new w1 _); have p0 := cell_at0 hp2; have p1 := cell_at1 hp2; have HL3 := Aside0.mk (below_heap hc2 HL2.out); have HC2 := Aside0.mk hc2; clear hp2 hc2))
      go_roundg 2
      case measure => have := HK.out; omega
      case rel => exact ⟨2, by go_num, ⟨rfl, by omega⟩, ⟨HL3.out⟩, ⟨bl_trans (bl_alloc (bl_trans HB.out hc1) _) HC2.out⟩⟩
    · obtain ⟨a, b, c, habc⟩ : ∃ a b c, spotS s (s.size : Int) l er = (a, b, c) := ⟨_, _, _, rfl⟩
      have HSP := Aside0.mk habc
      have HK := Aside0.mk hk
      have m0 := cell_at HL.out 2 (.int .i64 (s.size : Int)) rfl
      have HM := Aside0.mk HL.out
      clear habc hk HI
      have e1 : (a == a) = true := by simp
      have e2 : (b == b) = true := by simp
      have e3 : (c == c) = true := by simp
      go_wp2_with (first
        | (go_at_call 16; (with_reducible refine (spotof_any s (s.size : Int) a b c l er _ (by omega) HH.out HSP.out).mono ?_); rintro e w1 ⟨rfl, hc1⟩; have hl1 := below_heap hc1 HL.out; have m1 := cell_at hl1 2 (.int .i64 (s.size : Int)) rfl; have HL1 := Aside0.mk hl1; clear hl1; have hm1 := below_heap (bl_alloc (Below.refl w1.heap.size w1) (.cells #[.int .i64 a, .int .i64 b] 33)) HL1.out; have m2 := cell_at hm1 2 (.int .i64 (s.size : Int)) rfl; have HL2 := Aside0.mk hm1; clear hm1)
        | (go_at_call 35; (with_reducible refine (rspotof_any s (s.size : Int) a b c l er _ (by omega) HH.out HSP.out).mono ?_); rintro e w2 ⟨rfl, hc2⟩; have hp2 := below_heap hc2 (heap_alloc_new w1 _); have p0 := cell_at0 hp2; have p1 := cell_at1 hp2; have HL3 := Aside0.mk (below_heap hc2 HL2.out); have HC2 := Aside0.mk hc2; clear hp2 hc2))
      go_roundg 1
      case measure => have := HK.out; omega
      case rel => exact ⟨3, by go_num, ⟨rfl, by omega⟩, ⟨HL3.out⟩, ⟨bl_trans (bl_alloc (bl_trans HB.out hc1) _) HC2.out⟩⟩
    · obtain ⟨a, b, c, habc⟩ : ∃ a b c, spotS s (-1) l er = (a, b, c) := ⟨_, _, _, rfl⟩
      have HSP := Aside0.mk habc
      have HK := Aside0.mk hk
      have m0 := cell_at HL.out 3 (.int .i64 (-1)) rfl
      have HM := Aside0.mk HL.out
      clear habc hk HI
      have e1 : (a == a) = true := by simp
      have e2 : (b == b) = true := by simp
      have e3 : (c == c) = true := by simp
      go_wp2_with (first
        | (go_at_call 16; (with_reducible refine (spotof_any s (-1) a b c l er _ (by omega) HH.out HSP.out).mono ?_); rintro e w1 ⟨rfl, hc1⟩; have hl1 := below_heap hc1 HL.out; have m1 := cell_at hl1 3 (.int .i64 (-1)) rfl; have HL1 := Aside0.mk hl1; clear hl1; have hm1 := below_heap (bl_alloc (Below.refl w1.heap.size w1) (.cells #[.int .i64 a, .int .i64 b] 33)) HL1.out; have m2 := cell_at hm1 3 (.int .i64 (-1)) rfl; have HL2 := Aside0.mk hm1; clear hm1)
        | (go_at_call 35; (with_reducible refine (rspotof_any s (-1) a b c l er _ (by omega) HH.out HSP.out).mono ?_); rintro e w2 ⟨rfl, hc2⟩; have hp2 := below_heap hc2 (heap_alloc_new w1 _); have p0 := cell_at0 hp2; have p1 := cell_at1 hp2; have HL3 := Aside0.mk (below_heap hc2 HL2.out); have HC2 := Aside0.mk hc2; clear hp2 hc2))
      go_roundg 0
      case measure => have := HK.out; omega
      case rel => exact ⟨4, by go_num, ⟨rfl, by omega⟩, ⟨HL3.out⟩, ⟨bl_trans (bl_alloc (bl_trans HB.out hc1) _) HC2.out⟩⟩
    · clear hk HI
      obtain ⟨W0, hW0⟩ : ∃ W0, W0 = wr := ⟨_, rfl⟩
      subst hW0
      go_wp2_with (first
        | (go_at_call 34; (with_reducible refine (emendbook_Within.calls _ _ _ _ _ HR1.out).mono ?_); rintro e w1 ⟨rfl, ⟨nd3, rfl⟩⟩)
        | (go_at_call 34; (with_reducible refine (emendbook_Within.calls _ _ _ _ _ HR2.out).mono ?_); rintro e w1 ⟨rfl, ⟨nd4, rfl⟩⟩))
      go_loopg [17] 3 (fun kq v17 w' => ∃ i : Nat, v17 = .int .i64 i ∧ Aside0 (kq = 3 - i ∧ i ≤ 3) ∧ Aside0 (w'.heap[W0.heap.size]? = some (.cells #[.int .i64 line, .int .i64 col, .int .i64 r1, .int .i64 r2, .int .i64 1, .int .i64 1] 33 (0, 0))) ∧ Aside0 (Below w.heap.size w w'))
      case atStart => exact ⟨0, rfl, ⟨rfl, by omega⟩, ⟨heap_alloc_new (W0.drewN _) _⟩, ⟨bl_alloc (bl_drewN HB.out _) _⟩⟩
      case round =>
        obtain ⟨i, rfl, HI, HM, HB2⟩ := hrel
        obtain ⟨hk, hi3⟩ := HI.out
        have hwz2 := HB2.out.size
        have hi : i = 0 ∨ i = 1 ∨ i = 2 ∨ i = 3 := by omega
        rcases hi with rfl | rfl | rfl | rfl
        · obtain ⟨a, b, hab⟩ : ∃ a b, atS line col l er = (a, b) := ⟨_, _, rfl⟩
          have HAT := Aside0.mk hab
          have HK := Aside0.mk hk
          have m0 := cell_at HM.out 0 (.int .i64 line) rfl
          have m1 := cell_at HM.out 1 (.int .i64 col) rfl
          clear hab hk HI
          have e1 : (a == a) = true := by simp
          have e2 : (b == b) = true := by simp
          go_wp2_with (first
            | (go_at_call 17; (with_reducible refine (at_any s line col a b l er _ (by omega) HH.out HAT.out).mono ?_); rintro e w1 ⟨rfl, hc1⟩; have hl1 := below_heap hc1 HM.out; have n0 := cell_at hl1 0 (.int .i64 line) rfl; have n1 := cell_at hl1 1 (.int .i64 col) rfl; have HL1 := Aside0.mk hl1; have HC1 := Aside0.mk (bl_trans HB2.out hc1); clear hl1 hc1))
          refine wp_region_any (by kernel_rfl) ?_
          change wpAny _ _ _ _ _ _ _ (World.drew _)
          refine wpAny_of_held (S := fun w' => w'.cell? ⟨W0.heap.size, 0, none⟩ = some (.int .i64 line) ∧ w'.cell? ⟨W0.heap.size, 1, none⟩ = some (.int .i64 col) ∧ (w'.heap[W0.heap.size]? = some (.cells #[.int .i64 line, .int .i64 col, .int .i64 r1, .int .i64 r2, .int .i64 1, .int .i64 1] 33 (0, 0)) ∧ Below w.heap.size w w')) _ _ _ _ ?_
          have hHeld : w1.drew.cell? ⟨W0.heap.size, 0, none⟩ = some (.int .i64 line) ∧ w1.drew.cell? ⟨W0.heap.size, 1, none⟩ = some (.int .i64 col) ∧ (w1.drew.heap[W0.heap.size]? = some (.cells #[.int .i64 line, .int .i64 col, .int .i64 r1, .int .i64 r2, .int .i64 1, .int .i64 1] 33 (0, 0)) ∧ Below w.heap.size w w1.drew) := ⟨n0, n1, HL1.out, bl_drew HC1.out⟩
          refine wpAnyH_take (i := 0) (v := ?_) rfl (by kernel_rfl) (by kernel_rfl) (by kernel_rfl) (fun _ _ _ h => h) (Or.inl ⟨by rfl, fun w2 hS => ?hy0⟩) hHeld ?_
          case hy0 => (obtain ⟨q0, q1, q2⟩ := hS; clear q2; go_simp; try with_reducible rfl)
          try simp only [List.getElem_toArray, List.getElem_cons_succ, List.getElem_cons_zero, Act.put, List.setIfInBounds_toArray, List.set_cons_zero, List.set_cons_succ]
          refine wpAnyH_take (i := 1) (v := ?_) rfl (by kernel_rfl) (by kernel_rfl) (by kernel_rfl) (fun _ _ _ h => h) (Or.inl ⟨by rfl, fun w2 hS => ?hy1⟩) hHeld ?_
          case hy1 => (obtain ⟨q0, q1, q2⟩ := hS; clear q2; go_simp; try with_reducible rfl)
          try simp only [List.getElem_toArray, List.getElem_cons_succ, List.getElem_cons_zero, Act.put, List.setIfInBounds_toArray, List.set_cons_zero, List.set_cons_succ]
          refine wpAnyH_take (i := 2) (v := ?_) rfl (by kernel_rfl) (by kernel_rfl) (by kernel_rfl) (fun _ _ _ h => h) (Or.inl ⟨by rfl, fun w2 hS => ?hy2⟩) hHeld ?_
          case hy2 => (obtain ⟨q0, q1, q2⟩ := hS; clear q2; go_simp; try with_reducible rfl)
          try simp only [List.getElem_toArray, List.getElem_cons_succ, List.getElem_cons_zero, Act.put, List.setIfInBounds_toArray, List.set_cons_zero, List.set_cons_succ]
          refine wpAnyH_take (i := 3) (v := ?_) rfl (by kernel_rfl) (by kernel_rfl) (by kernel_rfl) (fun _ _ _ h => h) (Or.inl ⟨by rfl, fun w2 hS => ?hy3⟩) hHeld ?_
          case hy3 => (obtain ⟨q0, q1, q2⟩ := hS; clear q2; go_simp; try with_reducible rfl)
          try simp only [List.getElem_toArray, List.getElem_cons_succ, List.getElem_cons_zero, Act.put, List.setIfInBounds_toArray, List.set_cons_zero, List.set_cons_succ]
          refine wpAnyH_take (i := 4) (v := ?_) rfl (by kernel_rfl) (by kernel_rfl) (by kernel_rfl) (fun _ _ _ h => h) (Or.inl ⟨by rfl, fun w2 hS => ?hy4⟩) hHeld ?_
          case hy4 => (obtain ⟨q0, q1, q2⟩ := hS; clear q2; go_simp; try with_reducible rfl)
          try simp only [List.getElem_toArray, List.getElem_cons_succ, List.getElem_cons_zero, Act.put, List.setIfInBounds_toArray, List.set_cons_zero, List.set_cons_succ]
          refine wpAnyH_take (i := 5) (v := ?_) rfl (by kernel_rfl) (by kernel_rfl) (by kernel_rfl) (fun _ _ _ h => h) (Or.inl ⟨by rfl, fun w2 hS => ?hy5⟩) hHeld ?_
          case hy5 => (obtain ⟨q0, q1, q2⟩ := hS; clear q2; go_simp; try with_reducible rfl)
          try simp only [List.getElem_toArray, List.getElem_cons_succ, List.getElem_cons_zero, Act.put, List.setIfInBounds_toArray, List.set_cons_zero, List.set_cons_succ]
          refine wpAnyH_take (i := 6) (v := ?_) rfl (by kernel_rfl) (by kernel_rfl) (by kernel_rfl) (fun _ _ _ h => h) (Or.inl ⟨by rfl, fun w2 hS => ?hy6⟩) hHeld ?_
          case hy6 => (obtain ⟨q0, q1, q2⟩ := hS; clear q2; go_simp; try with_reducible rfl)
          try simp only [List.getElem_toArray, List.getElem_cons_succ, List.getElem_cons_zero, Act.put, List.setIfInBounds_toArray, List.set_cons_zero, List.set_cons_succ]
          refine wpAnyH_take (i := 7) (v := ?_) rfl (by kernel_rfl) (by kernel_rfl) (by kernel_rfl) (fun _ _ _ h => h) (Or.inl ⟨by rfl, fun w2 hS => ?hy7⟩) hHeld ?_
          case hy7 => (obtain ⟨q0, q1, q2⟩ := hS; clear q2; go_simp; try with_reducible rfl)
          try simp only [List.getElem_toArray, List.getElem_cons_succ, List.getElem_cons_zero, Act.put, List.setIfInBounds_toArray, List.set_cons_zero, List.set_cons_succ]
          refine wpAnyH_take (i := 8) (v := ?_) rfl (by kernel_rfl) (by kernel_rfl) (by kernel_rfl) (fun _ _ _ h => h) (Or.inl ⟨by rfl, fun w2 hS => ?hy8⟩) hHeld ?_
          case hy8 => (obtain ⟨q0, q1, q2⟩ := hS; clear q2; go_simp; try with_reducible rfl)
          try simp only [List.getElem_toArray, List.getElem_cons_succ, List.getElem_cons_zero, Act.put, List.setIfInBounds_toArray, List.set_cons_zero, List.set_cons_succ]
          refine wpAnyH_take (i := 9) (v := ?_) rfl (by kernel_rfl) (by kernel_rfl) (by kernel_rfl) (fun _ _ _ h => h) (Or.inl ⟨by rfl, fun w2 hS => ?hy9⟩) hHeld ?_
          case hy9 => (obtain ⟨q0, q1, q2⟩ := hS; clear q2; go_simp; try with_reducible rfl)
          try simp only [List.getElem_toArray, List.getElem_cons_succ, List.getElem_cons_zero, Act.put, List.setIfInBounds_toArray, List.set_cons_zero, List.set_cons_succ]
          refine wpAnyH_take (i := 10) (v := ?_) rfl (by kernel_rfl) (by kernel_rfl) (by kernel_rfl) (fun _ _ _ h => h) (Or.inl ⟨by rfl, fun w2 hS => ?hy10⟩) hHeld ?_
          case hy10 => (obtain ⟨q0, q1, q2⟩ := hS; clear q2; go_simp; try with_reducible rfl)
          try simp only [List.getElem_toArray, List.getElem_cons_succ, List.getElem_cons_zero, Act.put, List.setIfInBounds_toArray, List.set_cons_zero, List.set_cons_succ]
          refine wpAnyH_ready (rs := [11]) (by kernel_rfl) (by simp) ?_
          refine AllReadyH.cons rfl (fun K hK => ?_) AllReadyH.nil
          go_simp
          refine (rat_any s line col a b l er _ (by omega) HH.out HAT.out).mono ?_
          rintro e w3 ⟨rfl, hc3⟩
          have hl3 := below_heap hc3 hHeld.2.2.1
          have hS3 := (⟨cell_at hl3 0 (.int .i64 line) rfl, cell_at hl3 1 (.int .i64 col) rfl, hl3, bl_trans hHeld.2.2.2 hc3⟩ : w3.cell? ⟨W0.heap.size, 0, none⟩ = some (.int .i64 line) ∧ w3.cell? ⟨W0.heap.size, 1, none⟩ = some (.int .i64 col) ∧ (w3.heap[W0.heap.size]? = some (.cells #[.int .i64 line, .int .i64 col, .int .i64 r1, .int .i64 r2, .int .i64 1, .int .i64 1] 33 (0, 0)) ∧ Below w.heap.size w w3))
          refine hK.out _ _ hS3 (fun _ => ?_)
          clear hK K hHeld
          have hHeld := hS3
          try simp only [List.getElem_toArray, List.getElem_cons_succ, List.getElem_cons_zero, Act.put, List.setIfInBounds_toArray, List.set_cons_zero, List.set_cons_succ]
          refine wpAnyH_take (i := 12) (v := ?_) rfl (by kernel_rfl) (by kernel_rfl) (by kernel_rfl) (fun _ _ _ h => h) (Or.inl ⟨by rfl, fun w2 hS => ?hy12⟩) hHeld ?_
          case hy12 => (obtain ⟨q0, q1, q2⟩ := hS; clear q2; go_simp; try with_reducible rfl)
          try simp only [List.getElem_toArray, List.getElem_cons_succ, List.getElem_cons_zero, Act.put, List.setIfInBounds_toArray, List.set_cons_zero, List.set_cons_succ]
          refine wpAnyH_take (i := 13) (v := ?_) rfl (by kernel_rfl) (by kernel_rfl) (by kernel_rfl) (fun _ _ _ h => h) (Or.inl ⟨by rfl, fun w2 hS => ?hy13⟩) hHeld ?_
          case hy13 => (obtain ⟨q0, q1, q2⟩ := hS; clear q2; go_simp; try with_reducible rfl)
          try simp only [List.getElem_toArray, List.getElem_cons_succ, List.getElem_cons_zero, Act.put, List.setIfInBounds_toArray, List.set_cons_zero, List.set_cons_succ]
          refine wpAnyH_take (i := 14) (v := ?_) rfl (by kernel_rfl) (by kernel_rfl) (by kernel_rfl) (fun _ _ _ h => h) (Or.inl ⟨by rfl, fun w2 hS => ?hy14⟩) hHeld ?_
          case hy14 => (obtain ⟨q0, q1, q2⟩ := hS; clear q2; go_simp; try with_reducible rfl)
          try simp only [List.getElem_toArray, List.getElem_cons_succ, List.getElem_cons_zero, Act.put, List.setIfInBounds_toArray, List.set_cons_zero, List.set_cons_succ]
          refine wpAnyH_take (i := 15) (v := ?_) rfl (by kernel_rfl) (by kernel_rfl) (by kernel_rfl) (fun _ _ _ h => h) (Or.inl ⟨by rfl, fun w2 hS => ?hy15⟩) hHeld ?_
          case hy15 => (obtain ⟨q0, q1, q2⟩ := hS; clear q2; go_simp; try with_reducible rfl)
          try simp only [List.getElem_toArray, List.getElem_cons_succ, List.getElem_cons_zero, Act.put, List.setIfInBounds_toArray, List.set_cons_zero, List.set_cons_succ]
          refine wpAnyH_take (i := 16) (v := ?_) rfl (by kernel_rfl) (by kernel_rfl) (by kernel_rfl) (fun _ _ _ h => h) (Or.inl ⟨by rfl, fun w2 hS => ?hy16⟩) hHeld ?_
          case hy16 => (obtain ⟨q0, q1, q2⟩ := hS; clear q2; go_simp; try with_reducible rfl)
          try simp only [List.getElem_toArray, List.getElem_cons_succ, List.getElem_cons_zero, Act.put, List.setIfInBounds_toArray, List.set_cons_zero, List.set_cons_succ]
          refine wpAnyH_done (by kernel_rfl) ?_ _
          have HHL := Aside0.mk hHeld
          clear hHeld hS3
          go_wp2
          go_roundg 2
          case measure => have := HK.out; omega
          case rel => exact ⟨1, by go_num, ⟨rfl, by omega⟩, ⟨HHL.out.2.2.1⟩, ⟨HHL.out.2.2.2⟩⟩
        · obtain ⟨a, b, hab⟩ : ∃ a b, atS r1 r2 l er = (a, b) := ⟨_, _, rfl⟩
          have HAT := Aside0.mk hab
          have HK := Aside0.mk hk
          have m0 := cell_at HM.out 2 (.int .i64 r1) rfl
          have m1 := cell_at HM.out 3 (.int .i64 r2) rfl
          clear hab hk HI
          have e1 : (a == a) = true := by simp
          have e2 : (b == b) = true := by simp
          go_wp2_with (first
            | (go_at_call 17; (with_reducible refine (at_any s r1 r2 a b l er _ (by omega) HH.out HAT.out).mono ?_); rintro e w1 ⟨rfl, hc1⟩; have hl1 := below_heap hc1 HM.out; have n0 := cell_at hl1 2 (.int .i64 r1) rfl; have n1 := cell_at hl1 3 (.int .i64 r2) rfl; have HL1 := Aside0.mk hl1; have HC1 := Aside0.mk (bl_trans HB2.out hc1); clear hl1 hc1))
          refine wp_region_any (by kernel_rfl) ?_
          change wpAny _ _ _ _ _ _ _ (World.drew _)
          refine wpAny_of_held (S := fun w' => w'.cell? ⟨W0.heap.size, 2, none⟩ = some (.int .i64 r1) ∧ w'.cell? ⟨W0.heap.size, 3, none⟩ = some (.int .i64 r2) ∧ (w'.heap[W0.heap.size]? = some (.cells #[.int .i64 line, .int .i64 col, .int .i64 r1, .int .i64 r2, .int .i64 1, .int .i64 1] 33 (0, 0)) ∧ Below w.heap.size w w')) _ _ _ _ ?_
          have hHeld : w1.drew.cell? ⟨W0.heap.size, 2, none⟩ = some (.int .i64 r1) ∧ w1.drew.cell? ⟨W0.heap.size, 3, none⟩ = some (.int .i64 r2) ∧ (w1.drew.heap[W0.heap.size]? = some (.cells #[.int .i64 line, .int .i64 col, .int .i64 r1, .int .i64 r2, .int .i64 1, .int .i64 1] 33 (0, 0)) ∧ Below w.heap.size w w1.drew) := ⟨n0, n1, HL1.out, bl_drew HC1.out⟩
          refine wpAnyH_take (i := 0) (v := ?_) rfl (by kernel_rfl) (by kernel_rfl) (by kernel_rfl) (fun _ _ _ h => h) (Or.inl ⟨by rfl, fun w2 hS => ?hy0⟩) hHeld ?_
          case hy0 => (obtain ⟨q0, q1, q2⟩ := hS; clear q2; go_simp; try with_reducible rfl)
          try simp only [List.getElem_toArray, List.getElem_cons_succ, List.getElem_cons_zero, Act.put, List.setIfInBounds_toArray, List.set_cons_zero, List.set_cons_succ]
          refine wpAnyH_take (i := 1) (v := ?_) rfl (by kernel_rfl) (by kernel_rfl) (by kernel_rfl) (fun _ _ _ h => h) (Or.inl ⟨by rfl, fun w2 hS => ?hy1⟩) hHeld ?_
          case hy1 => (obtain ⟨q0, q1, q2⟩ := hS; clear q2; go_simp; try with_reducible rfl)
          try simp only [List.getElem_toArray, List.getElem_cons_succ, List.getElem_cons_zero, Act.put, List.setIfInBounds_toArray, List.set_cons_zero, List.set_cons_succ]
          refine wpAnyH_take (i := 2) (v := ?_) rfl (by kernel_rfl) (by kernel_rfl) (by kernel_rfl) (fun _ _ _ h => h) (Or.inl ⟨by rfl, fun w2 hS => ?hy2⟩) hHeld ?_
          case hy2 => (obtain ⟨q0, q1, q2⟩ := hS; clear q2; go_simp; try with_reducible rfl)
          try simp only [List.getElem_toArray, List.getElem_cons_succ, List.getElem_cons_zero, Act.put, List.setIfInBounds_toArray, List.set_cons_zero, List.set_cons_succ]
          refine wpAnyH_take (i := 3) (v := ?_) rfl (by kernel_rfl) (by kernel_rfl) (by kernel_rfl) (fun _ _ _ h => h) (Or.inl ⟨by rfl, fun w2 hS => ?hy3⟩) hHeld ?_
          case hy3 => (obtain ⟨q0, q1, q2⟩ := hS; clear q2; go_simp; try with_reducible rfl)
          try simp only [List.getElem_toArray, List.getElem_cons_succ, List.getElem_cons_zero, Act.put, List.setIfInBounds_toArray, List.set_cons_zero, List.set_cons_succ]
          refine wpAnyH_take (i := 4) (v := ?_) rfl (by kernel_rfl) (by kernel_rfl) (by kernel_rfl) (fun _ _ _ h => h) (Or.inl ⟨by rfl, fun w2 hS => ?hy4⟩) hHeld ?_
          case hy4 => (obtain ⟨q0, q1, q2⟩ := hS; clear q2; go_simp; try with_reducible rfl)
          try simp only [List.getElem_toArray, List.getElem_cons_succ, List.getElem_cons_zero, Act.put, List.setIfInBounds_toArray, List.set_cons_zero, List.set_cons_succ]
          refine wpAnyH_take (i := 5) (v := ?_) rfl (by kernel_rfl) (by kernel_rfl) (by kernel_rfl) (fun _ _ _ h => h) (Or.inl ⟨by rfl, fun w2 hS => ?hy5⟩) hHeld ?_
          case hy5 => (obtain ⟨q0, q1, q2⟩ := hS; clear q2; go_simp; try with_reducible rfl)
          try simp only [List.getElem_toArray, List.getElem_cons_succ, List.getElem_cons_zero, Act.put, List.setIfInBounds_toArray, List.set_cons_zero, List.set_cons_succ]
          refine wpAnyH_take (i := 6) (v := ?_) rfl (by kernel_rfl) (by kernel_rfl) (by kernel_rfl) (fun _ _ _ h => h) (Or.inl ⟨by rfl, fun w2 hS => ?hy6⟩) hHeld ?_
          case hy6 => (obtain ⟨q0, q1, q2⟩ := hS; clear q2; go_simp; try with_reducible rfl)
          try simp only [List.getElem_toArray, List.getElem_cons_succ, List.getElem_cons_zero, Act.put, List.setIfInBounds_toArray, List.set_cons_zero, List.set_cons_succ]
          refine wpAnyH_take (i := 7) (v := ?_) rfl (by kernel_rfl) (by kernel_rfl) (by kernel_rfl) (fun _ _ _ h => h) (Or.inl ⟨by rfl, fun w2 hS => ?hy7⟩) hHeld ?_
          case hy7 => (obtain ⟨q0, q1, q2⟩ := hS; clear q2; go_simp; try with_reducible rfl)
          try simp only [List.getElem_toArray, List.getElem_cons_succ, List.getElem_cons_zero, Act.put, List.setIfInBounds_toArray, List.set_cons_zero, List.set_cons_succ]
          refine wpAnyH_take (i := 8) (v := ?_) rfl (by kernel_rfl) (by kernel_rfl) (by kernel_rfl) (fun _ _ _ h => h) (Or.inl ⟨by rfl, fun w2 hS => ?hy8⟩) hHeld ?_
          case hy8 => (obtain ⟨q0, q1, q2⟩ := hS; clear q2; go_simp; try with_reducible rfl)
          try simp only [List.getElem_toArray, List.getElem_cons_succ, List.getElem_cons_zero, Act.put, List.setIfInBounds_toArray, List.set_cons_zero, List.set_cons_succ]
          refine wpAnyH_take (i := 9) (v := ?_) rfl (by kernel_rfl) (by kernel_rfl) (by kernel_rfl) (fun _ _ _ h => h) (Or.inl ⟨by rfl, fun w2 hS => ?hy9⟩) hHeld ?_
          case hy9 => (obtain ⟨q0, q1, q2⟩ := hS; clear q2; go_simp; try with_reducible rfl)
          try simp only [List.getElem_toArray, List.getElem_cons_succ, List.getElem_cons_zero, Act.put, List.setIfInBounds_toArray, List.set_cons_zero, List.set_cons_succ]
          refine wpAnyH_take (i := 10) (v := ?_) rfl (by kernel_rfl) (by kernel_rfl) (by kernel_rfl) (fun _ _ _ h => h) (Or.inl ⟨by rfl, fun w2 hS => ?hy10⟩) hHeld ?_
          case hy10 => (obtain ⟨q0, q1, q2⟩ := hS; clear q2; go_simp; try with_reducible rfl)
          try simp only [List.getElem_toArray, List.getElem_cons_succ, List.getElem_cons_zero, Act.put, List.setIfInBounds_toArray, List.set_cons_zero, List.set_cons_succ]
          refine wpAnyH_ready (rs := [11]) (by kernel_rfl) (by simp) ?_
          refine AllReadyH.cons rfl (fun K hK => ?_) AllReadyH.nil
          go_simp
          refine (rat_any s r1 r2 a b l er _ (by omega) HH.out HAT.out).mono ?_
          rintro e w3 ⟨rfl, hc3⟩
          have hl3 := below_heap hc3 hHeld.2.2.1
          have hS3 := (⟨cell_at hl3 2 (.int .i64 r1) rfl, cell_at hl3 3 (.int .i64 r2) rfl, hl3, bl_trans hHeld.2.2.2 hc3⟩ : w3.cell? ⟨W0.heap.size, 2, none⟩ = some (.int .i64 r1) ∧ w3.cell? ⟨W0.heap.size, 3, none⟩ = some (.int .i64 r2) ∧ (w3.heap[W0.heap.size]? = some (.cells #[.int .i64 line, .int .i64 col, .int .i64 r1, .int .i64 r2, .int .i64 1, .int .i64 1] 33 (0, 0)) ∧ Below w.heap.size w w3))
          refine hK.out _ _ hS3 (fun _ => ?_)
          clear hK K hHeld
          have hHeld := hS3
          try simp only [List.getElem_toArray, List.getElem_cons_succ, List.getElem_cons_zero, Act.put, List.setIfInBounds_toArray, List.set_cons_zero, List.set_cons_succ]
          refine wpAnyH_take (i := 12) (v := ?_) rfl (by kernel_rfl) (by kernel_rfl) (by kernel_rfl) (fun _ _ _ h => h) (Or.inl ⟨by rfl, fun w2 hS => ?hy12⟩) hHeld ?_
          case hy12 => (obtain ⟨q0, q1, q2⟩ := hS; clear q2; go_simp; try with_reducible rfl)
          try simp only [List.getElem_toArray, List.getElem_cons_succ, List.getElem_cons_zero, Act.put, List.setIfInBounds_toArray, List.set_cons_zero, List.set_cons_succ]
          refine wpAnyH_take (i := 13) (v := ?_) rfl (by kernel_rfl) (by kernel_rfl) (by kernel_rfl) (fun _ _ _ h => h) (Or.inl ⟨by rfl, fun w2 hS => ?hy13⟩) hHeld ?_
          case hy13 => (obtain ⟨q0, q1, q2⟩ := hS; clear q2; go_simp; try with_reducible rfl)
          try simp only [List.getElem_toArray, List.getElem_cons_succ, List.getElem_cons_zero, Act.put, List.setIfInBounds_toArray, List.set_cons_zero, List.set_cons_succ]
          refine wpAnyH_take (i := 14) (v := ?_) rfl (by kernel_rfl) (by kernel_rfl) (by kernel_rfl) (fun _ _ _ h => h) (Or.inl ⟨by rfl, fun w2 hS => ?hy14⟩) hHeld ?_
          case hy14 => (obtain ⟨q0, q1, q2⟩ := hS; clear q2; go_simp; try with_reducible rfl)
          try simp only [List.getElem_toArray, List.getElem_cons_succ, List.getElem_cons_zero, Act.put, List.setIfInBounds_toArray, List.set_cons_zero, List.set_cons_succ]
          refine wpAnyH_take (i := 15) (v := ?_) rfl (by kernel_rfl) (by kernel_rfl) (by kernel_rfl) (fun _ _ _ h => h) (Or.inl ⟨by rfl, fun w2 hS => ?hy15⟩) hHeld ?_
          case hy15 => (obtain ⟨q0, q1, q2⟩ := hS; clear q2; go_simp; try with_reducible rfl)
          try simp only [List.getElem_toArray, List.getElem_cons_succ, List.getElem_cons_zero, Act.put, List.setIfInBounds_toArray, List.set_cons_zero, List.set_cons_succ]
          refine wpAnyH_take (i := 16) (v := ?_) rfl (by kernel_rfl) (by kernel_rfl) (by kernel_rfl) (fun _ _ _ h => h) (Or.inl ⟨by rfl, fun w2 hS => ?hy16⟩) hHeld ?_
          case hy16 => (obtain ⟨q0, q1, q2⟩ := hS; clear q2; go_simp; try with_reducible rfl)
          try simp only [List.getElem_toArray, List.getElem_cons_succ, List.getElem_cons_zero, Act.put, List.setIfInBounds_toArray, List.set_cons_zero, List.set_cons_succ]
          refine wpAnyH_done (by kernel_rfl) ?_ _
          have HHL := Aside0.mk hHeld
          clear hHeld hS3
          go_wp2
          go_roundg 1
          case measure => have := HK.out; omega
          case rel => exact ⟨2, by go_num, ⟨rfl, by omega⟩, ⟨HHL.out.2.2.1⟩, ⟨HHL.out.2.2.2⟩⟩
        · obtain ⟨a, b, hab⟩ : ∃ a b, atS 1 1 l er = (a, b) := ⟨_, _, rfl⟩
          have HAT := Aside0.mk hab
          have HK := Aside0.mk hk
          have m0 := cell_at HM.out 4 (.int .i64 1) rfl
          have m1 := cell_at HM.out 5 (.int .i64 1) rfl
          clear hab hk HI
          have e1 : (a == a) = true := by simp
          have e2 : (b == b) = true := by simp
          go_wp2_with (first
            | (go_at_call 17; (with_reducible refine (at_any s 1 1 a b l er _ (by omega) HH.out HAT.out).mono ?_); rintro e w1 ⟨rfl, hc1⟩; have hl1 := below_heap hc1 HM.out; have n0 := cell_at hl1 4 (.int .i64 1) rfl; have n1 := cell_at hl1 5 (.int .i64 1) rfl; have HL1 := Aside0.mk hl1; have HC1 := Aside0.mk (bl_trans HB2.out hc1); clear hl1 hc1))
          refine wp_region_any (by kernel_rfl) ?_
          change wpAny _ _ _ _ _ _ _ (World.drew _)
          refine wpAny_of_held (S := fun w' => w'.cell? ⟨W0.heap.size, 4, none⟩ = some (.int .i64 1) ∧ w'.cell? ⟨W0.heap.size, 5, none⟩ = some (.int .i64 1) ∧ (w'.heap[W0.heap.size]? = some (.cells #[.int .i64 line, .int .i64 col, .int .i64 r1, .int .i64 r2, .int .i64 1, .int .i64 1] 33 (0, 0)) ∧ Below w.heap.size w w')) _ _ _ _ ?_
          have hHeld : w1.drew.cell? ⟨W0.heap.size, 4, none⟩ = some (.int .i64 1) ∧ w1.drew.cell? ⟨W0.heap.size, 5, none⟩ = some (.int .i64 1) ∧ (w1.drew.heap[W0.heap.size]? = some (.cells #[.int .i64 line, .int .i64 col, .int .i64 r1, .int .i64 r2, .int .i64 1, .int .i64 1] 33 (0, 0)) ∧ Below w.heap.size w w1.drew) := ⟨n0, n1, HL1.out, bl_drew HC1.out⟩
          refine wpAnyH_take (i := 0) (v := ?_) rfl (by kernel_rfl) (by kernel_rfl) (by kernel_rfl) (fun _ _ _ h => h) (Or.inl ⟨by rfl, fun w2 hS => ?hy0⟩) hHeld ?_
          case hy0 => (obtain ⟨q0, q1, q2⟩ := hS; clear q2; go_simp; try with_reducible rfl)
          try simp only [List.getElem_toArray, List.getElem_cons_succ, List.getElem_cons_zero, Act.put, List.setIfInBounds_toArray, List.set_cons_zero, List.set_cons_succ]
          refine wpAnyH_take (i := 1) (v := ?_) rfl (by kernel_rfl) (by kernel_rfl) (by kernel_rfl) (fun _ _ _ h => h) (Or.inl ⟨by rfl, fun w2 hS => ?hy1⟩) hHeld ?_
          case hy1 => (obtain ⟨q0, q1, q2⟩ := hS; clear q2; go_simp; try with_reducible rfl)
          try simp only [List.getElem_toArray, List.getElem_cons_succ, List.getElem_cons_zero, Act.put, List.setIfInBounds_toArray, List.set_cons_zero, List.set_cons_succ]
          refine wpAnyH_take (i := 2) (v := ?_) rfl (by kernel_rfl) (by kernel_rfl) (by kernel_rfl) (fun _ _ _ h => h) (Or.inl ⟨by rfl, fun w2 hS => ?hy2⟩) hHeld ?_
          case hy2 => (obtain ⟨q0, q1, q2⟩ := hS; clear q2; go_simp; try with_reducible rfl)
          try simp only [List.getElem_toArray, List.getElem_cons_succ, List.getElem_cons_zero, Act.put, List.setIfInBounds_toArray, List.set_cons_zero, List.set_cons_succ]
          refine wpAnyH_take (i := 3) (v := ?_) rfl (by kernel_rfl) (by kernel_rfl) (by kernel_rfl) (fun _ _ _ h => h) (Or.inl ⟨by rfl, fun w2 hS => ?hy3⟩) hHeld ?_
          case hy3 => (obtain ⟨q0, q1, q2⟩ := hS; clear q2; go_simp; try with_reducible rfl)
          try simp only [List.getElem_toArray, List.getElem_cons_succ, List.getElem_cons_zero, Act.put, List.setIfInBounds_toArray, List.set_cons_zero, List.set_cons_succ]
          refine wpAnyH_take (i := 4) (v := ?_) rfl (by kernel_rfl) (by kernel_rfl) (by kernel_rfl) (fun _ _ _ h => h) (Or.inl ⟨by rfl, fun w2 hS => ?hy4⟩) hHeld ?_
          case hy4 => (obtain ⟨q0, q1, q2⟩ := hS; clear q2; go_simp; try with_reducible rfl)
          try simp only [List.getElem_toArray, List.getElem_cons_succ, List.getElem_cons_zero, Act.put, List.setIfInBounds_toArray, List.set_cons_zero, List.set_cons_succ]
          refine wpAnyH_take (i := 5) (v := ?_) rfl (by kernel_rfl) (by kernel_rfl) (by kernel_rfl) (fun _ _ _ h => h) (Or.inl ⟨by rfl, fun w2 hS => ?hy5⟩) hHeld ?_
          case hy5 => (obtain ⟨q0, q1, q2⟩ := hS; clear q2; go_simp; try with_reducible rfl)
          try simp only [List.getElem_toArray, List.getElem_cons_succ, List.getElem_cons_zero, Act.put, List.setIfInBounds_toArray, List.set_cons_zero, List.set_cons_succ]
          refine wpAnyH_take (i := 6) (v := ?_) rfl (by kernel_rfl) (by kernel_rfl) (by kernel_rfl) (fun _ _ _ h => h) (Or.inl ⟨by rfl, fun w2 hS => ?hy6⟩) hHeld ?_
          case hy6 => (obtain ⟨q0, q1, q2⟩ := hS; clear q2; go_simp; try with_reducible rfl)
          try simp only [List.getElem_toArray, List.getElem_cons_succ, List.getElem_cons_zero, Act.put, List.setIfInBounds_toArray, List.set_cons_zero, List.set_cons_succ]
          refine wpAnyH_take (i := 7) (v := ?_) rfl (by kernel_rfl) (by kernel_rfl) (by kernel_rfl) (fun _ _ _ h => h) (Or.inl ⟨by rfl, fun w2 hS => ?hy7⟩) hHeld ?_
          case hy7 => (obtain ⟨q0, q1, q2⟩ := hS; clear q2; go_simp; try with_reducible rfl)
          try simp only [List.getElem_toArray, List.getElem_cons_succ, List.getElem_cons_zero, Act.put, List.setIfInBounds_toArray, List.set_cons_zero, List.set_cons_succ]
          refine wpAnyH_take (i := 8) (v := ?_) rfl (by kernel_rfl) (by kernel_rfl) (by kernel_rfl) (fun _ _ _ h => h) (Or.inl ⟨by rfl, fun w2 hS => ?hy8⟩) hHeld ?_
          case hy8 => (obtain ⟨q0, q1, q2⟩ := hS; clear q2; go_simp; try with_reducible rfl)
          try simp only [List.getElem_toArray, List.getElem_cons_succ, List.getElem_cons_zero, Act.put, List.setIfInBounds_toArray, List.set_cons_zero, List.set_cons_succ]
          refine wpAnyH_take (i := 9) (v := ?_) rfl (by kernel_rfl) (by kernel_rfl) (by kernel_rfl) (fun _ _ _ h => h) (Or.inl ⟨by rfl, fun w2 hS => ?hy9⟩) hHeld ?_
          case hy9 => (obtain ⟨q0, q1, q2⟩ := hS; clear q2; go_simp; try with_reducible rfl)
          try simp only [List.getElem_toArray, List.getElem_cons_succ, List.getElem_cons_zero, Act.put, List.setIfInBounds_toArray, List.set_cons_zero, List.set_cons_succ]
          refine wpAnyH_take (i := 10) (v := ?_) rfl (by kernel_rfl) (by kernel_rfl) (by kernel_rfl) (fun _ _ _ h => h) (Or.inl ⟨by rfl, fun w2 hS => ?hy10⟩) hHeld ?_
          case hy10 => (obtain ⟨q0, q1, q2⟩ := hS; clear q2; go_simp; try with_reducible rfl)
          try simp only [List.getElem_toArray, List.getElem_cons_succ, List.getElem_cons_zero, Act.put, List.setIfInBounds_toArray, List.set_cons_zero, List.set_cons_succ]
          refine wpAnyH_ready (rs := [11]) (by kernel_rfl) (by simp) ?_
          refine AllReadyH.cons rfl (fun K hK => ?_) AllReadyH.nil
          go_simp
          refine (rat_any s 1 1 a b l er _ (by omega) HH.out HAT.out).mono ?_
          rintro e w3 ⟨rfl, hc3⟩
          have hl3 := below_heap hc3 hHeld.2.2.1
          have hS3 := (⟨cell_at hl3 4 (.int .i64 1) rfl, cell_at hl3 5 (.int .i64 1) rfl, hl3, bl_trans hHeld.2.2.2 hc3⟩ : w3.cell? ⟨W0.heap.size, 4, none⟩ = some (.int .i64 1) ∧ w3.cell? ⟨W0.heap.size, 5, none⟩ = some (.int .i64 1) ∧ (w3.heap[W0.heap.size]? = some (.cells #[.int .i64 line, .int .i64 col, .int .i64 r1, .int .i64 r2, .int .i64 1, .int .i64 1] 33 (0, 0)) ∧ Below w.heap.size w w3))
          refine hK.out _ _ hS3 (fun _ => ?_)
          clear hK K hHeld
          have hHeld := hS3
          try simp only [List.getElem_toArray, List.getElem_cons_succ, List.getElem_cons_zero, Act.put, List.setIfInBounds_toArray, List.set_cons_zero, List.set_cons_succ]
          refine wpAnyH_take (i := 12) (v := ?_) rfl (by kernel_rfl) (by kernel_rfl) (by kernel_rfl) (fun _ _ _ h => h) (Or.inl ⟨by rfl, fun w2 hS => ?hy12⟩) hHeld ?_
          case hy12 => (obtain ⟨q0, q1, q2⟩ := hS; clear q2; go_simp; try with_reducible rfl)
          try simp only [List.getElem_toArray, List.getElem_cons_succ, List.getElem_cons_zero, Act.put, List.setIfInBounds_toArray, List.set_cons_zero, List.set_cons_succ]
          refine wpAnyH_take (i := 13) (v := ?_) rfl (by kernel_rfl) (by kernel_rfl) (by kernel_rfl) (fun _ _ _ h => h) (Or.inl ⟨by rfl, fun w2 hS => ?hy13⟩) hHeld ?_
          case hy13 => (obtain ⟨q0, q1, q2⟩ := hS; clear q2; go_simp; try with_reducible rfl)
          try simp only [List.getElem_toArray, List.getElem_cons_succ, List.getElem_cons_zero, Act.put, List.setIfInBounds_toArray, List.set_cons_zero, List.set_cons_succ]
          refine wpAnyH_take (i := 14) (v := ?_) rfl (by kernel_rfl) (by kernel_rfl) (by kernel_rfl) (fun _ _ _ h => h) (Or.inl ⟨by rfl, fun w2 hS => ?hy14⟩) hHeld ?_
          case hy14 => (obtain ⟨q0, q1, q2⟩ := hS; clear q2; go_simp; try with_reducible rfl)
          try simp only [List.getElem_toArray, List.getElem_cons_succ, List.getElem_cons_zero, Act.put, List.setIfInBounds_toArray, List.set_cons_zero, List.set_cons_succ]
          refine wpAnyH_take (i := 15) (v := ?_) rfl (by kernel_rfl) (by kernel_rfl) (by kernel_rfl) (fun _ _ _ h => h) (Or.inl ⟨by rfl, fun w2 hS => ?hy15⟩) hHeld ?_
          case hy15 => (obtain ⟨q0, q1, q2⟩ := hS; clear q2; go_simp; try with_reducible rfl)
          try simp only [List.getElem_toArray, List.getElem_cons_succ, List.getElem_cons_zero, Act.put, List.setIfInBounds_toArray, List.set_cons_zero, List.set_cons_succ]
          refine wpAnyH_take (i := 16) (v := ?_) rfl (by kernel_rfl) (by kernel_rfl) (by kernel_rfl) (fun _ _ _ h => h) (Or.inl ⟨by rfl, fun w2 hS => ?hy16⟩) hHeld ?_
          case hy16 => (obtain ⟨q0, q1, q2⟩ := hS; clear q2; go_simp; try with_reducible rfl)
          try simp only [List.getElem_toArray, List.getElem_cons_succ, List.getElem_cons_zero, Act.put, List.setIfInBounds_toArray, List.set_cons_zero, List.set_cons_succ]
          refine wpAnyH_done (by kernel_rfl) ?_ _
          have HHL := Aside0.mk hHeld
          clear hHeld hS3
          go_wp2
          go_roundg 0
          case measure => have := HK.out; omega
          case rel => exact ⟨3, by go_num, ⟨rfl, by omega⟩, ⟨HHL.out.2.2.1⟩, ⟨HHL.out.2.2.2⟩⟩
        · clear hk HI
          go_wp2_with (first
            | (go_at_call 3; (with_reducible refine (runs_later w _ he ?_).mono ?_); (focus exact HB2.out); rintro e w3 ⟨rfl, hc3⟩))
          go_ret
          exact ⟨rfl, hc3⟩
end Go.Proofs.YtgdfgahpjebcaaaDoor
