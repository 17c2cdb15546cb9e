/-
  emendbook.Book[int]: Stays, walked, at a book of two lists. PRINTED by gen_bos.py.
-/
import Derived.Test.YtgdfgahpjebcaaaDoorBok
set_option linter.unusedSimpArgs false
set_option linter.unusedVariables false
namespace Go.Proofs.YtgdfgahpjebcaaaDoor
open Go.RowKit Go.Proofs.YtgdfgahpjebcaaaDoorW.PrintWords Go.Proofs.YtgdfgahpjebcaaaDoor.PT

theorem row_form {w : World} {B : Nat} {v x0 x1 : Value} (h : w.ownsRow B 22 1 v [x0, x1].length [x0, x1]) : ∃ g c, v = .slice (some ⟨g, 0, none⟩) 2 c ∧ B ≤ g ∧ (∃ cur : Array Value, w.heap[g]? = some (.cells cur 22 (0, 0)) ∧ cur.toList.take 2 = [x0, x1]) := by
  rcases h.2 with ⟨_, hn⟩ | ⟨g, cap, cur, hv, hB, hh, _, _, _, ht⟩
  · cases hn
  · exact ⟨g, cap, hv, hB, cur, hh, ht⟩
theorem row_cells {w : World} {g : Nat} {cur : Array Value} {x0 x1 : Value} {T : TypeId} (h : w.heap[g]? = some (.cells cur T (0, 0))) (ht : cur.toList.take 2 = [x0, x1]) : w.cell? ⟨g, 0, none⟩ = some x0 ∧ w.cell? ⟨g, 1, none⟩ = some x1 := by
  have h0 := congrArg (fun l : List Value => l[0]?) ht
  have h1 := congrArg (fun l : List Value => l[1]?) ht
  simp at h0 h1
  exact ⟨(Lib.cell_of_heap h 0).trans (by simpa using h0), (Lib.cell_of_heap h 1).trans (by simpa using h1)⟩
theorem BookIs.fourth {w : World} {B b : Nat} {vl vw : Value} {Ls Ws : List Value} {n : Int} (h : BookIs w B b vl vw Ls Ws n) : BookIs (w.setCell ⟨b, 3, none⟩ (.bool false)) B b vl vw Ls Ws n :=
  ⟨(blk4_set h.blk).2.2.2 _, own_setCell h.ol (own_ne h.ol h.blk (by decide)) _, own_setCell h.ow (own_ne h.ow h.blk (by decide)) _, h.ne⟩
theorem BookIs.drewN {w : World} {B b : Nat} {vl vw : Value} {Ls Ws : List Value} {n : Int} (h : BookIs w B b vl vw Ls Ws n) (m : Nat) : BookIs (w.drewN m) B b vl vw Ls Ws n := ⟨h.blk, h.ol, h.ow, h.ne⟩
theorem IntKept.drewN {a b : World} (h : IntKept a b) (m : Nat) : IntKept a (b.drewN m) := fun g cur hg => h g cur hg

/-- What holds through Stays. -/
structure SI (w0 : World) (B b : Nat) (vl vw : Value) (Ls Ws : List Value) (n : Int) (w : World) : Prop where
  bk : BookIs w B b vl vw Ls Ws n
  below : Below B w0 w
  kept : IntKept w0 w
theorem SI.drewN {w0 w : World} {B b : Nat} {vl vw : Value} {Ls Ws : List Value} {n : Int} (h : SI w0 B b vl vw Ls Ws n w) (m : Nat) : SI w0 B b vl vw Ls Ws n (w.drewN m) := ⟨h.bk.drewN m, below_drewN h.below m, h.kept.drewN m⟩
theorem SI.drew {w0 w : World} {B b : Nat} {vl vw : Value} {Ls Ws : List Value} {n : Int} (h : SI w0 B b vl vw Ls Ws n w) : SI w0 B b vl vw Ls Ws n w.drew := ⟨⟨h.bk.blk, h.bk.ol, h.bk.ow, h.bk.ne⟩, h.below.drew, fun g cur hg => h.kept g cur hg⟩
theorem SI.set {w0 w : World} {B b : Nat} {vl vw : Value} {Ls Ws : List Value} {n : Int} (h : SI w0 B b vl vw Ls Ws n w) (hB : B ≤ b) : SI w0 B b vl vw Ls Ws n (w.setCell ⟨b, 3, none⟩ (.bool false)) :=
  ⟨h.bk.fourth, h.below.setCell hB _, h.kept.set (p := ⟨b, 3, none⟩) h.bk.blk (by decide) _⟩

theorem stays_s0 {w0 w : World} {B b gl gw cl cw : Nat} {x0 x1 y0 y1 : Value} {n : Int} (h : SI w0 B b (.slice (some ⟨gl, 0, none⟩) 2 cl) (.slice (some ⟨gw, 0, none⟩) 2 cw) [x0, x1] [y0, y1] n w) :
    w.cell? ⟨b, 0, none⟩ = some (.slice (some ⟨gl, 0, none⟩) 2 cl) ∧ w.cell? ⟨b, 1, none⟩ = some (.slice (some ⟨gw, 0, none⟩) 2 cw) ∧ w.cell? ⟨b, 3, none⟩ = some (.bool false) ∧ w.frozen? ⟨b, 3, none⟩ = false ∧ w.cell? ⟨gl, 0, none⟩ = some x0 ∧ w.cell? ⟨gw, 0, none⟩ = some y0 ∧ SI w0 B b (.slice (some ⟨gl, 0, none⟩) 2 cl) (.slice (some ⟨gw, 0, none⟩) 2 cw) [x0, x1] [y0, y1] n w := by
  obtain ⟨k0, k1, k2, k3, kz⟩ := h.bk.c
  obtain ⟨g, c, hv, _, cur, hh, ht⟩ := row_form h.bk.ol
  obtain ⟨g', c', hv', _, cur', hh', ht'⟩ := row_form h.bk.ow
  injection hv with e1 _ _; injection e1 with e1; injection e1 with e1 _ _; subst e1
  injection hv' with e1 _ _; injection e1 with e1; injection e1 with e1 _ _; subst e1
  exact ⟨k0, k1, k3, kz 3, (row_cells hh ht).1, (row_cells hh' ht').1, h⟩
theorem stays_s1 {w0 w : World} {B b gl gw cl cw : Nat} {x0 x1 y0 y1 : Value} {n : Int} (h : SI w0 B b (.slice (some ⟨gl, 0, none⟩) 2 cl) (.slice (some ⟨gw, 0, none⟩) 2 cw) [x0, x1] [y0, y1] n w) :
    w.cell? ⟨b, 0, none⟩ = some (.slice (some ⟨gl, 0, none⟩) 2 cl) ∧ w.cell? ⟨b, 1, none⟩ = some (.slice (some ⟨gw, 0, none⟩) 2 cw) ∧ w.cell? ⟨b, 3, none⟩ = some (.bool false) ∧ w.frozen? ⟨b, 3, none⟩ = false ∧ w.cell? ⟨gl, 1, none⟩ = some x1 ∧ w.cell? ⟨gw, 1, none⟩ = some y1 ∧ SI w0 B b (.slice (some ⟨gl, 0, none⟩) 2 cl) (.slice (some ⟨gw, 0, none⟩) 2 cw) [x0, x1] [y0, y1] n w := by
  obtain ⟨k0, k1, k2, k3, kz⟩ := h.bk.c
  obtain ⟨g, c, hv, _, cur, hh, ht⟩ := row_form h.bk.ol
  obtain ⟨g', c', hv', _, cur', hh', ht'⟩ := row_form h.bk.ow
  injection hv with e1 _ _; injection e1 with e1; injection e1 with e1 _ _; subst e1
  injection hv' with e1 _ _; injection e1 with e1; injection e1 with e1 _ _; subst e1
  exact ⟨k0, k1, k3, kz 3, (row_cells hh ht).2, (row_cells hh' ht').2, h⟩

set_option maxHeartbeats 16000000 in
set_option maxRecDepth 100000 in
theorem stays_two (B b : Nat) (vl vw : Value) (A0 A1 C0 C1 : Option Addr) (d0 d1 : Nat) (l : List Int) (n : Int) (w : World)
    (hb : BookIs w B b vl vw [.slice A0 l.length l.length, .slice A1 l.length l.length] [.slice C0 l.length d0, .slice C1 l.length d1] n) (hBb : B ≤ b) (hB : B ≤ w.heap.size)
    (hl : l.length ≤ 4000) (hd0 : l.length ≤ d0) (hd1 : l.length ≤ d1) (h0 : RowAt w A0 l) (h1 : RowAt w A1 l) (g0 : RowAt w C0 l) (g1 : RowAt w C1 l) :
    Calls Tryd.prog 58 #[.pointer (some ⟨b, 0, none⟩)] w fun e w' => e = .returned (.bool true) ∧ SI w B b vl vw [.slice A0 l.length l.length, .slice A1 l.length l.length] [.slice C0 l.length d0, .slice C1 l.length d1] n w' := by
  obtain ⟨gl, cl, rfl, hgl, _⟩ := row_form hb.ol
  obtain ⟨gw, cw, rfl, hgw, _⟩ := row_form hb.ow
  have HSI := Aside0.mk (⟨hb, Below.refl _ _, IntKept.refl _⟩ : SI w B b (.slice (some ⟨gl, 0, none⟩) 2 cl) (.slice (some ⟨gw, 0, none⟩) 2 cw) [.slice A0 l.length l.length, .slice A1 l.length l.length] [.slice C0 l.length d0, .slice C1 l.length d1] n w)
  have H0 := Aside0.mk h0
  have H1 := Aside0.mk h1
  have G0 := Aside0.mk g0
  have G1 := Aside0.mk g1
  have HD0 := Aside0.mk hd0
  have HD1 := Aside0.mk hd1
  clear hb h0 h1 g0 g1 hd0 hd1
  go_enter Tryd.func58, Tryd.ntmps58
  go_wp2
  go_loopg [3] 2 (fun kq v3 w' => ∃ i : Nat, v3 = .int .i64 i ∧ Aside0 (kq = 2 - i ∧ i ≤ 2) ∧ Aside0 (SI w B b (.slice (some ⟨gl, 0, none⟩) 2 cl) (.slice (some ⟨gw, 0, none⟩) 2 cw) [.slice A0 l.length l.length, .slice A1 l.length l.length] [.slice C0 l.length d0, .slice C1 l.length d1] n w'))
  case atStart => exact ⟨0, rfl, ⟨rfl, by omega⟩, ⟨HSI.out⟩⟩
  case round =>
    obtain ⟨i, rfl, HI, HS⟩ := hrel
    obtain ⟨hk, hi2⟩ := HI.out
    have hi : i = 0 ∨ i = 1 ∨ i = 2 := by omega
    have HK := Aside0.mk hk
    clear hk HI
    obtain ⟨k0, k1, k2, k3, kz⟩ := HS.out.bk.c
    have z3 := kz 3
    clear kz
    rcases hi with rfl | rfl | rfl
    · go_wp2
      go_region_held3 (fun w' => w'.cell? ⟨b, 0, none⟩ = some (.slice (some ⟨gl, 0, none⟩) 2 cl) ∧ w'.cell? ⟨b, 1, none⟩ = some (.slice (some ⟨gw, 0, none⟩) 2 cw) ∧ w'.cell? ⟨b, 3, none⟩ = some (.bool false) ∧ w'.frozen? ⟨b, 3, none⟩ = false ∧ w'.cell? ⟨gl, 0, none⟩ = some (.slice A0 l.length l.length) ∧ w'.cell? ⟨gw, 0, none⟩ = some (.slice C0 l.length d0) ∧ SI w B b (.slice (some ⟨gl, 0, none⟩) 2 cl) (.slice (some ⟨gw, 0, none⟩) 2 cw) [.slice A0 l.length l.length, .slice A1 l.length l.length] [.slice C0 l.length d0, .slice C1 l.length d1] n w')
        ((refine stays_s0 ?_; repeat (first | exact HS.out | refine SI.drew ?_ | refine SI.drewN ?_ _ | refine SI.set ?_ hBb | assumption)))
        (first | (go_at_call 13; refine (same_hit A0 C0 l l.length d0 _ (by omega) (by first | exact (H0.out.kept (HS.out.kept.drewN _)).C (by omega) | exact Kd.C_drew ((H0.out.kept HS.out.kept).C (by omega))) (Nat.le_refl _) (by first | exact (G0.out.kept (HS.out.kept.drewN _)).C (by omega) | exact Kd.C_drew ((G0.out.kept HS.out.kept).C (by omega))) HD0.out).mono ?_; rintro e w' ⟨rfl, ⟨nd, rfl⟩⟩))
      all_goals go_wp2
      all_goals go_roundg 1
      case measure => have := HK.out; omega
      case rel => exact ⟨1, by go_num, ⟨rfl, by omega⟩, ⟨(HS.out.drewN _).set hBb⟩⟩
    · go_wp2
      go_region_held3 (fun w' => w'.cell? ⟨b, 0, none⟩ = some (.slice (some ⟨gl, 0, none⟩) 2 cl) ∧ w'.cell? ⟨b, 1, none⟩ = some (.slice (some ⟨gw, 0, none⟩) 2 cw) ∧ w'.cell? ⟨b, 3, none⟩ = some (.bool false) ∧ w'.frozen? ⟨b, 3, none⟩ = false ∧ w'.cell? ⟨gl, 1, none⟩ = some (.slice A1 l.length l.length) ∧ w'.cell? ⟨gw, 1, none⟩ = some (.slice C1 l.length d1) ∧ SI w B b (.slice (some ⟨gl, 0, none⟩) 2 cl) (.slice (some ⟨gw, 0, none⟩) 2 cw) [.slice A0 l.length l.length, .slice A1 l.length l.length] [.slice C0 l.length d0, .slice C1 l.length d1] n w')
        ((refine stays_s1 ?_; repeat (first | exact HS.out | refine SI.drew ?_ | refine SI.drewN ?_ _ | refine SI.set ?_ hBb | assumption)))
        (first | (go_at_call 13; refine (same_hit A1 C1 l l.length d1 _ (by omega) (by first | exact (H1.out.kept (HS.out.kept.drewN _)).C (by omega) | exact Kd.C_drew ((H1.out.kept HS.out.kept).C (by omega))) (Nat.le_refl _) (by first | exact (G1.out.kept (HS.out.kept.drewN _)).C (by omega) | exact Kd.C_drew ((G1.out.kept HS.out.kept).C (by omega))) HD1.out).mono ?_; rintro e w' ⟨rfl, ⟨nd, rfl⟩⟩))
      all_goals go_wp2
      all_goals go_roundg 0
      case measure => have := HK.out; omega
      case rel => exact ⟨2, by go_num, ⟨rfl, by omega⟩, ⟨(HS.out.drewN _).set hBb⟩⟩
    · go_wp2
      go_ret
      exact ⟨rfl, HS.out⟩
end Go.Proofs.YtgdfgahpjebcaaaDoor
