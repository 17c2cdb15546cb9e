/-
  emendbook.Book[int]: Apart, walked, at a book of two lists. PRINTED by gen_boa.py.
-/
import Derived.Test.YtgdfgahpjebcaaaDoorBos
set_option linter.unusedSimpArgs false
set_option linter.unusedVariables false
namespace Go.Proofs.YtgdfgahpjebcaaaDoor
open Go.RowKit Go.Proofs.YtgdfgahpjebcaaaDoorW.PrintWords Go.Proofs.YtgdfgahpjebcaaaDoor.PT

theorem ints_any (i j : Int) (w : World) (h : -1000 ≤ i ∧ i ≤ 1000) : Calls Tryd.prog 30 #[.int .i64 i, .int .i64 j] w fun e w' => e = .returned (.int .i64 (-1000 - i)) ∧ w' = w := by
  go_enter Tryd.func30, Tryd.ntmps30
  go_wp2
  go_ret
  exact ⟨rfl, rfl⟩

theorem RowAt.cell {w : World} {A : Option Addr} {X : List Int} (h : RowAt w A X) (j : Nat) (x : Int) (hx : X[j]? = some x) : ∃ g, A = some ⟨g, 0, none⟩ ∧ w.cell? ⟨g, j, none⟩ = some (.int .i64 x) ∧ w.frozen? ⟨g, j, none⟩ = false := by
  have hj : j < X.length := by
    rcases Nat.lt_or_ge j X.length with h | h
    · exact h
    · rw [List.getElem?_eq_none h] at hx; cases hx
  rcases h with ⟨rfl, _⟩ | ⟨g, cur, rfl, hh, ht⟩
  · exact absurd hj (Nat.not_lt_zero j)
  refine ⟨g, rfl, ?_, Lib.frozen_of_heap hh j⟩
  rw [Lib.cell_of_heap hh j]
  have h1 := congrArg (fun l : List Value => l[j]?) ht
  rw [List.getElem?_eq_getElem hj] at hx
  injection hx with hx
  subst hx
  simp [nums, List.getElem?_take, hj, List.getElem?_eq_getElem hj] at h1
  simpa using h1
theorem RowAt.set {w : World} {g : Nat} {X : List Int} (h : RowAt w (some ⟨g, 0, none⟩) X) (j : Nat) (hj : j < X.length) (x : Int) : RowAt (w.setCell ⟨g, j, none⟩ (.int .i64 x)) (some ⟨g, 0, none⟩) (X.set j x) := by
  rcases h with ⟨rfl, _⟩ | ⟨g', cur, he, hh, ht⟩
  · exact absurd hj (Nat.not_lt_zero j)
  injection he with he; injection he with he _ _; subst he
  refine .inr ⟨g, cur.setIfInBounds j (.int .i64 x), rfl, blk_put hh j _ rfl, ?_⟩
  rw [Array.toList_setIfInBounds, List.length_set, List.take_set, ht]
  simp [nums, List.map_set]
theorem RowAt.other {w : World} {A : Option Addr} {X : List Int} (h : RowAt w A X) {g : Nat} (hg : ∀ g', A = some ⟨g', 0, none⟩ → g' ≠ g) (j : Nat) (v : Value) : RowAt (w.setCell ⟨g, j, none⟩ v) A X := by
  rcases h with h | ⟨g', cur, he, hh, ht⟩
  · exact .inl h
  · exact .inr ⟨g', cur, he, (Below.heap_setCell _ _ _ _ (hg g' he)).trans hh, ht⟩
theorem RowAt.drewN {w : World} {A : Option Addr} {X : List Int} (h : RowAt w A X) (n : Nat) : RowAt (w.drewN n) A X := h
theorem RowAt.heap {w : World} {g : Nat} {X : List Int} (h : RowAt w (some ⟨g, 0, none⟩) X) (hX : 0 < X.length) : ∃ cur : Array Value, w.heap[g]? = some (.cells cur 3 (0, 0)) := by
  rcases h with ⟨rfl, _⟩ | ⟨g', cur, he, hh, ht⟩
  · exact absurd hX (Nat.not_lt_zero 0)
  injection he with he; injection he with he _ _; subst he
  exact ⟨cur, hh⟩
theorem take_mark (X : List Int) (j : Nat) (m : Int) (hj : j < X.length) (h : X.take j = List.replicate j m) : (X.set j m).take (j + 1) = List.replicate (j + 1) m := by
  rw [List.take_succ_eq_append_getElem (by simpa using hj), List.take_set_of_le (Nat.le_refl _), h, List.replicate_succ']
  simp

/-- What the book bears in Apart. -/
structure AC (w0 : World) (B b gl cl gw cw : Nat) (x0 x1 y0 y1 : Value) (n : Int) (w : World) : Prop where
  bk : BookIs w B b (.slice (some ⟨gl, 0, none⟩) 2 cl) (.slice (some ⟨gw, 0, none⟩) 2 cw) [x0, x1] [y0, y1] n
  below : Below B w0 w
theorem AC.put {w0 w : World} {B b gl cl gw cw : Nat} {x0 x1 y0 y1 : Value} {n : Int} (h : AC w0 B b gl cl gw cw x0 x1 y0 y1 n w) {g : Nat} {cur : Array Value} (hh : w.heap[g]? = some (.cells cur 3 (0, 0))) (hg : B ≤ g) (j : Nat) (v : Value) : AC w0 B b gl cl gw cw x0 x1 y0 y1 n (w.setCell ⟨g, j, none⟩ v) :=
  ⟨⟨by rw [Below.heap_setCell _ _ _ _ (blk_ne h.bk.blk hh (by decide))]; exact h.bk.blk, own_setCell h.bk.ol (own_ne h.bk.ol hh (by decide)) _, own_setCell h.bk.ow (own_ne h.bk.ow hh (by decide)) _, h.bk.ne⟩, h.below.setCell (p := ⟨g, j, none⟩) hg v⟩
theorem AC.drewN {w0 w : World} {B b gl cl gw cw : Nat} {x0 x1 y0 y1 : Value} {n : Int} (h : AC w0 B b gl cl gw cw x0 x1 y0 y1 n w) (m : Nat) : AC w0 B b gl cl gw cw x0 x1 y0 y1 n (w.drewN m) := ⟨h.bk.drewN m, below_drewN h.below m⟩
theorem AC.c {w0 w : World} {B b gl cl gw cw : Nat} {x0 x1 y0 y1 : Value} {n : Int} (h : AC w0 B b gl cl gw cw x0 x1 y0 y1 n w) :
    w.cell? ⟨b, 0, none⟩ = some (.slice (some ⟨gl, 0, none⟩) 2 cl) ∧ w.cell? ⟨gl, 0, none⟩ = some x0 ∧ w.cell? ⟨gl, 1, none⟩ = some x1 ∧ w.frozen? ⟨b, 0, none⟩ = false ∧ w.frozen? ⟨b, 1, none⟩ = false ∧ w.frozen? ⟨b, 2, none⟩ = false ∧ w.cell? ⟨b, 1, none⟩ = some (.slice (some ⟨gw, 0, none⟩) 2 cw) ∧ w.cell? ⟨b, 2, none⟩ = some (.int .i64 n) := by
  obtain ⟨k0, k1, k2, k3, kz⟩ := h.bk.c
  obtain ⟨g, c, hv, _, cur, hh, ht⟩ := row_form h.bk.ol
  injection hv with e1 _ _; injection e1 with e1; injection e1 with e1 _ _; subst e1
  exact ⟨k0, (row_cells hh ht).1, (row_cells hh ht).2, kz 0, kz 1, kz 2, k1, k2⟩

set_option maxHeartbeats 16000000 in
set_option maxRecDepth 100000 in
theorem apart_any (B b : Nat) (vl vw : Value) (A0 A1 C0 C1 : Option Addr) (d0 d1 : Nat) (l : List Int) (n : Int) (w : World)
    (hb : BookIs w B b vl vw [.slice A0 l.length l.length, .slice A1 l.length l.length] [.slice C0 l.length d0, .slice C1 l.length d1] n) (hBb : B ≤ b) (hB : B ≤ w.heap.size)
    (hB0 : ∀ g, A0 = some ⟨g, 0, none⟩ → B ≤ g) (hB1 : ∀ g, A1 = some ⟨g, 0, none⟩ → B ≤ g) (hne : ∀ g g', A0 = some ⟨g, 0, none⟩ → A1 = some ⟨g', 0, none⟩ → g ≠ g')
    (hl : l.length ≤ 4000) (hd0 : l.length ≤ d0) (hd1 : l.length ≤ d1) (h0 : RowAt w A0 l) (h1 : RowAt w A1 l) (e0 : RowAt w C0 l) (e1 : RowAt w C1 l) :
    Calls Tryd.prog 29 #[.pointer (some ⟨b, 0, none⟩), .func (.func 30) #[] #[]] w fun e w' => e = .returned (.bool true) ∧ Below B w w' := by
  have HST := stays_two B b vl vw A0 A1 C0 C1 d0 d1 l n w hb hBb hB hl hd0 hd1 h0 h1 e0 e1
  obtain ⟨gl, cl, rfl, -, -⟩ := row_form hb.ol
  obtain ⟨gw, cw, rfl, -, -⟩ := row_form hb.ow
  have HST := Aside0.mk HST
  have hs0 : ∀ W : World, (Instr.slice 22 (.slice A0 l.length l.length) none (some (.int .i64 (l.length : Nat))) none).run Tryd.prog W = .ok (.slice A0 l.length l.length) W := by
    have h := (print_take_int (k := .i64) 22 3 Tryd.underlying22 (info_parts infoInt).choose_spec.1 (info_parts infoInt).choose_spec.2.2.1 A0 l.length l l.length (by omega) (by omega) (Nat.le_refl _)).1
    simpa using h
  have hs1 : ∀ W : World, (Instr.slice 22 (.slice A1 l.length l.length) none (some (.int .i64 (l.length : Nat))) none).run Tryd.prog W = .ok (.slice A1 l.length l.length) W := by
    have h := (print_take_int (k := .i64) 22 3 Tryd.underlying22 (info_parts infoInt).choose_spec.1 (info_parts infoInt).choose_spec.2.2.1 A1 l.length l l.length (by omega) (by omega) (Nat.le_refl _)).1
    simpa using h
  have H0 := Aside0.mk h0
  have H1 := Aside0.mk h1
  have HB0 := Aside0.mk hB0
  have HB1 := Aside0.mk hB1
  have HNE := Aside0.mk hne
  clear hb h0 h1 e0 e1 hd0 hd1 hB0 hB1 hne
  go_enter Tryd.func29, Tryd.ntmps29
  go_wp2_with (first
    | (go_at_call 58; (with_reducible refine HST.out.mono ?_); rintro e w1 ⟨rfl, hs1⟩; have HA := Aside0.mk (⟨hs1.bk, hs1.below⟩ : AC w B b gl cl gw cw _ _ _ _ n w1); have HR0 := Aside0.mk (H0.out.kept hs1.kept); have HR1 := Aside0.mk (H1.out.kept hs1.kept); clear hs1))
  clear HST H0 H1
  obtain ⟨k0, c0, c1, z0, z1, z2, k1, k2⟩ := HA.out.c
  refine wp_loop_rounds 3 ?_
  rw [rounds_succ]
  go_wp2
  go_quiet (fail)
  go_wp2
  clear k0 c0 c1 z0 z1 z2 k1 k2
  go_loopg [7] l.length (fun kq v7 w' => ∃ (j : Nat) (X : List Int), v7 = .int .i64 j ∧ Aside0 (kq = l.length - j ∧ j ≤ l.length) ∧ Aside0 (X.length = l.length ∧ X.take j = List.replicate j (-1000 - 0 : Int) ∧ RowAt w' A0 X) ∧ Aside0 (AC w B b gl cl gw cw (.slice A0 l.length l.length) (.slice A1 l.length l.length) (.slice C0 l.length d0) (.slice C1 l.length d1) n w') ∧ Aside0 (RowAt w' A1 l))
  case atStart => exact ⟨0, l, by rfl, ⟨by omega, by omega⟩, ⟨rfl, by simp, HR0.out.drewN _⟩, ⟨HA.out.drewN _⟩, ⟨HR1.out.drewN _⟩⟩
  case round =>
    clear HA HR0 HR1
    obtain ⟨j, X, rfl, HI, HX, HA, HO⟩ := hrel
    obtain ⟨hk, hj⟩ := HI.out
    have HK := Aside0.mk hk
    clear HI hk
    by_cases hjl : j < l.length
    · obtain ⟨hxl, hxt, hxr⟩ := HX.out
      obtain ⟨x, hx⟩ : ∃ x, X[j]? = some x := ⟨_, List.getElem?_eq_getElem (by omega)⟩
      obtain ⟨g, hg, hc, hz⟩ := hxr.cell j x hx
      subst hg
      obtain ⟨cur, hcur⟩ := hxr.heap (by omega)
      have HAC := Aside0.mk (HA.out.put hcur (HB0.out g rfl) j (.int .i64 (-1000 - 0 : Int)))
      have HXR := Aside0.mk (hxr.set j (by rw [hxl]; exact hjl) (-1000 - 0 : Int))
      have HOO := Aside0.mk (HO.out.other (g := g) (fun g' hg' => fun h => HNE.out g g' rfl hg' h.symm) j (.int .i64 (-1000 - 0 : Int)))
      have HXL := Aside0.mk hxl
      have HXT := Aside0.mk hxt
      clear hxl hxt hxr hcur hx
      have q1 : ((j : Int) < (l.length : Int)) = True := eq_true (by omega)
      have p1 : (0 : Int) ≤ (j : Int) := by omega
      go_wp2_with (first | (go_at_call 30; (with_reducible refine (ints_any 0 _ _ (by decide)).mono ?_); rintro e wq ⟨rfl, rfl⟩))
      go_roundg (l.length - (j + 1))
      case measure => have := HK.out; omega
      case rel => exact ⟨j + 1, X.set j (-1000 - 0 : Int), by go_num, ⟨rfl, by omega⟩, ⟨by rw [List.length_set]; exact HXL.out, take_mark X j _ (by rw [HXL.out]; exact hjl) HXT.out, HXR.out⟩, HAC, HOO⟩
    · have hj' : j = l.length := by omega
      have HR0 := Aside0.mk (show RowAt _ A0 (List.replicate l.length (-1000 - 0 : Int)) from (by
        obtain ⟨hxl, hxt, hxr⟩ := HX.out
        rw [List.take_of_length_le (by omega)] at hxt
        rw [← hj', ← hxt]; exact hxr))
      have HR1 := HO
      clear HX HO HK hj
      subst hj'
      have q1 : ((l.length : Int) < (l.length : Int)) = False := eq_false (by omega)
      clear hjl
      obtain ⟨k0, c0, c1, z0, z1, z2, k1, k2⟩ := HA.out.c
      go_wp2
      rw [rounds_succ]
      go_wp2
      go_quiet (fail)
      go_wp2
      clear k0 c0 c1 z0 z1 z2 k1 k2
      go_loopg [7] l.length (fun kq v7 w' => ∃ (j : Nat) (X : List Int), v7 = .int .i64 j ∧ Aside0 (kq = l.length - j ∧ j ≤ l.length) ∧ Aside0 (X.length = l.length ∧ X.take j = List.replicate j (-1000 - 1 : Int) ∧ RowAt w' A1 X) ∧ Aside0 (AC w B b gl cl gw cw (.slice A0 l.length l.length) (.slice A1 l.length l.length) (.slice C0 l.length d0) (.slice C1 l.length d1) n w') ∧ Aside0 (RowAt w' A0 (List.replicate l.length (-1000 - 0 : Int))))
      case atStart => exact ⟨0, l, by rfl, ⟨by omega, by omega⟩, ⟨rfl, by simp, HR1.out.drewN _⟩, ⟨HA.out.drewN _⟩, ⟨HR0.out.drewN _⟩⟩
      case round =>
        clear HA HR0 HR1
        obtain ⟨j, X, rfl, HI, HX, HA, HO⟩ := hrel
        obtain ⟨hk, hj⟩ := HI.out
        have HK := Aside0.mk hk
        clear HI hk
        by_cases hjl : j < l.length
        · obtain ⟨hxl, hxt, hxr⟩ := HX.out
          obtain ⟨x, hx⟩ : ∃ x, X[j]? = some x := ⟨_, List.getElem?_eq_getElem (by omega)⟩
          obtain ⟨g, hg, hc, hz⟩ := hxr.cell j x hx
          subst hg
          obtain ⟨cur, hcur⟩ := hxr.heap (by omega)
          have HAC := Aside0.mk (HA.out.put hcur (HB1.out g rfl) j (.int .i64 (-1000 - 1 : Int)))
          have HXR := Aside0.mk (hxr.set j (by rw [hxl]; exact hjl) (-1000 - 1 : Int))
          have HOO := Aside0.mk (HO.out.other (g := g) (fun g' hg' => HNE.out g' g hg' rfl) j (.int .i64 (-1000 - 1 : Int)))
          have HXL := Aside0.mk hxl
          have HXT := Aside0.mk hxt
          clear hxl hxt hxr hcur hx
          have q1 : ((j : Int) < (l.length : Int)) = True := eq_true (by omega)
          have p1 : (0 : Int) ≤ (j : Int) := by omega
          go_wp2_with (first | (go_at_call 30; (with_reducible refine (ints_any 1 _ _ (by decide)).mono ?_); rintro e wq ⟨rfl, rfl⟩))
          go_roundg (l.length - (j + 1))
          case measure => have := HK.out; omega
          case rel => exact ⟨j + 1, X.set j (-1000 - 1 : Int), by go_num, ⟨rfl, by omega⟩, ⟨by rw [List.length_set]; exact HXL.out, take_mark X j _ (by rw [HXL.out]; exact hjl) HXT.out, HXR.out⟩, HAC, HOO⟩
        · have hj' : j = l.length := by omega
          have HR1 := Aside0.mk (show RowAt _ A1 (List.replicate l.length (-1000 - 1 : Int)) from (by
            obtain ⟨hxl, hxt, hxr⟩ := HX.out
            rw [List.take_of_length_le (by omega)] at hxt
            rw [← hj', ← hxt]; exact hxr))
          have HR0 := HO
          clear HX HO HK hj
          subst hj'
          have q1 : ((l.length : Int) < (l.length : Int)) = False := eq_false (by omega)
          clear hjl
          obtain ⟨k0, c0, c1, z0, z1, z2, k1, k2⟩ := HA.out.c
          go_wp2
          rw [rounds_succ]
          go_wp2
          refine wp_loop_rounds 3 ?_
          rw [rounds_succ]
          go_wp2
          go_quiet (fail)
          go_wp2
          clear k0 c0 c1 z0 z1 z2 k1 k2
          go_loopg [10] l.length (fun kq v10 w' => ∃ (j : Nat), v10 = .int .i64 j ∧ Aside0 (kq = l.length - j ∧ j ≤ l.length) ∧ Aside0 (AC w B b gl cl gw cw (.slice A0 l.length l.length) (.slice A1 l.length l.length) (.slice C0 l.length d0) (.slice C1 l.length d1) n w') ∧ Aside0 (RowAt w' A0 (List.replicate l.length (-1000 - 0 : Int))) ∧ Aside0 (RowAt w' A1 (List.replicate l.length (-1000 - 1 : Int))))
          case atStart => exact ⟨0, by rfl, ⟨by omega, by omega⟩, ⟨HA.out.drewN _⟩, ⟨HR0.out.drewN _⟩, ⟨HR1.out.drewN _⟩⟩
          case round =>
            clear HA HR0 HR1
            obtain ⟨j, rfl, HI, HA, HR0, HR1⟩ := hrel
            obtain ⟨hk, hj⟩ := HI.out
            have HK := Aside0.mk hk
            clear HI hk
            by_cases hjl : j < l.length
            · obtain ⟨g, hg, hc, hz⟩ := HR0.out.cell j (-1000 - 0 : Int) (by rw [List.getElem?_replicate, if_pos hjl])
              subst hg
              have q1 : ((j : Int) < (l.length : Int)) = True := eq_true (by omega)
              have p1 : (0 : Int) ≤ (j : Int) := by omega
              go_wp2
              go_quiet (first | (go_at_call 30; refine Calls.quiet_of_same (ints_any 0 _ _ (by decide))))
              go_wp2
              go_roundg (l.length - (j + 1))
              case measure => have := HK.out; omega
              case rel => exact ⟨j + 1, by go_num, ⟨rfl, by omega⟩, ⟨HA.out.drewN _⟩, ⟨HR0.out.drewN _⟩, ⟨HR1.out.drewN _⟩⟩
            · have hj' : j = l.length := by omega
              clear HK hj
              subst hj'
              have q1 : ((l.length : Int) < (l.length : Int)) = False := eq_false (by omega)
              clear hjl
              obtain ⟨k0, c0, c1, z0, z1, z2, k1, k2⟩ := HA.out.c
              go_wp2
              rw [rounds_succ]
              go_wp2
              go_quiet (fail)
              go_wp2
              clear k0 c0 c1 z0 z1 z2 k1 k2
              go_loopg [10] l.length (fun kq v10 w' => ∃ (j : Nat), v10 = .int .i64 j ∧ Aside0 (kq = l.length - j ∧ j ≤ l.length) ∧ Aside0 (AC w B b gl cl gw cw (.slice A0 l.length l.length) (.slice A1 l.length l.length) (.slice C0 l.length d0) (.slice C1 l.length d1) n w') ∧ Aside0 (RowAt w' A0 (List.replicate l.length (-1000 - 0 : Int))) ∧ Aside0 (RowAt w' A1 (List.replicate l.length (-1000 - 1 : Int))))
              case atStart => exact ⟨0, by rfl, ⟨by omega, by omega⟩, ⟨HA.out.drewN _⟩, ⟨HR0.out.drewN _⟩, ⟨HR1.out.drewN _⟩⟩
              case round =>
                clear HA HR0 HR1
                obtain ⟨j, rfl, HI, HA, HR0, HR1⟩ := hrel
                obtain ⟨hk, hj⟩ := HI.out
                have HK := Aside0.mk hk
                clear HI hk
                by_cases hjl : j < l.length
                · obtain ⟨g, hg, hc, hz⟩ := HR1.out.cell j (-1000 - 1 : Int) (by rw [List.getElem?_replicate, if_pos hjl])
                  subst hg
                  have q1 : ((j : Int) < (l.length : Int)) = True := eq_true (by omega)
                  have p1 : (0 : Int) ≤ (j : Int) := by omega
                  go_wp2
                  go_quiet (first | (go_at_call 30; refine Calls.quiet_of_same (ints_any 1 _ _ (by decide))))
                  go_wp2
                  go_roundg (l.length - (j + 1))
                  case measure => have := HK.out; omega
                  case rel => exact ⟨j + 1, by go_num, ⟨rfl, by omega⟩, ⟨HA.out.drewN _⟩, ⟨HR0.out.drewN _⟩, ⟨HR1.out.drewN _⟩⟩
                · have hj' : j = l.length := by omega
                  clear HK hj
                  subst hj'
                  have q1 : ((l.length : Int) < (l.length : Int)) = False := eq_false (by omega)
                  clear hjl
                  obtain ⟨k0, c0, c1, z0, z1, z2, k1, k2⟩ := HA.out.c
                  go_wp2
                  rw [rounds_succ]
                  go_wp2
                  go_ret
                  exact ⟨rfl, ((HA.out.below.setCell hBb _).setCell hBb _).setCell hBb _⟩
end Go.Proofs.YtgdfgahpjebcaaaDoor
