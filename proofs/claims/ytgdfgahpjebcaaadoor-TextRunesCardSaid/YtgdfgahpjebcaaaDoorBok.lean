/-
  emendbook.Book[int]: Keep and Stays, walked. PRINTED by gen_bok.py.
-/
import Derived.Test.YtgdfgahpjebcaaaDoorGap
import Derived.Test.YtgdfgahpjebcaaaDoorJnw
import Derived.Deep.RegionHeld3
import Derived.BigQuiet
set_option linter.unusedSimpArgs false
set_option linter.unusedVariables false
namespace Go.Proofs.YtgdfgahpjebcaaaDoor
open Go.RowKit Go.Proofs.YtgdfgahpjebcaaaDoorW.PrintWords Go.Proofs.YtgdfgahpjebcaaaDoor.PT

section
variable {P : Program} {ops : Array Oper} {o : Oper} {a : Act} {Q : Exit → Act → World → Prop} {K : Act → World → Prop}
/-- append(v, ys...), ys a slice that is read: what the run comes to. -/
theorem app_row_run {W : World} (base : Nat) (t ty e : TypeId) (k : IntKind) (bytes : Nat)
    (ht : P.underlying t = some (.slice e)) (hinfo : (P.info? e).map (fun i => (i.zero, i.size, i.bytes)) = some (some (.int k 0), 1, bytes)) (hb0 : 0 < bytes)
    (v : Value) (xs ys : List Int) (A : Option Addr) (m c : Nat)
    (HO : W.ownsRow base e 1 v xs.length (nums k xs)) (HR : ReadsInt W k A m ys) (hbase : base ≤ W.heap.size) (hl : (xs.length + m) * bytes ≤ 140737488355328) :
    ∃ v1 w1, (Builtin.append_ #[t, t] ty #[v, .slice A m c]).run P W = .ok v1 w1 ∧ w1.ownsRow base e 1 v1 (xs ++ ys).length (nums k (xs ++ ys)) ∧ W.grownBy w1 v.ownBlock := by
  obtain ⟨i0, hi, hzz⟩ := Option.map_eq_some_iff.1 hinfo
  simp only [Prod.mk.injEq] at hzz
  obtain ⟨hz0, hz1, hz2⟩ := hzz
  have hm : ys.length = m := HR.1
  have hlen : xs.length + m ≤ 140737488355328 := Nat.le_trans (Nat.le_mul_of_pos_right _ hb0) hl
  rcases A with _ | ad
  · have h0 : m = 0 := by
      rcases Nat.eq_zero_or_pos m with h0 | h0
      · exact h0
      · obtain ⟨ad, h, _⟩ := HR.2.2 h0
        cases h
    subst h0
    obtain rfl : ys = [] := List.eq_nil_of_length_eq_zero hm
    refine ⟨v, W, ?_, by simpa using HO, World.grownBy.refl W _⟩
    rcases HO.2 with ⟨rfl, hn⟩ | ⟨g, cap, cur, rfl, _, _, hnc, _⟩
    · simp [Builtin.append_, run_underlying ht, sizeOf, typeInfo, hi, Builtin.lenOf, Builtin.firstCells]
    · simp [Builtin.append_, run_underlying ht, sizeOf, typeInfo, hi, Builtin.lenOf, Builtin.firstCells, hnc, storeCells]
  · have hcells : ∀ j u, (nums k ys)[j]? = some u → W.cell? (ad.add j) = some u := by
      intro j u hu
      have hj : j < ys.length := by
        rcases Nat.lt_or_ge j ys.length with h | h
        · exact h
        · simp [nums, List.getElem?_eq_none h] at hu
      obtain ⟨ad', h', hc⟩ := HR.2.2 (by omega)
      injection h' with h'
      subst h'
      have := hc j (by omega)
      simp [nums, List.getElem?_eq_getElem hj] at hu
      subst hu
      rw [this]
      simp [List.getD_eq_getElem?_getD, List.getElem?_eq_getElem hj]
    obtain ⟨v1, w1, hr, h2, h3, _, h5⟩ := run_append_own_at (P := P) W base t ty e i0 (.int k 0) 1 bytes ht hi hz0 hz1 hz2 rfl (by omega) v xs.length (nums k xs) HO ad m c (nums k ys) (by simp [nums, hm]) hcells
      (by intro u hu; simp only [nums, List.mem_map] at hu; obtain ⟨q, _, rfl⟩ := hu; rfl) (by simp only [maxLen]; omega) hl hbase
    exact ⟨v1, w1, hr, by simpa [nums, hm] using h2, h3⟩
/-- append(v, ys...) as one step of a region. -/
theorem step_row_int {w0 W : World} {E : Prop} (base : Nat) (hw : Region.wanted o (yielded ops a.tmps) = true) (s x : Operand) (t e : TypeId) (k : IntKind) (bytes : Nat)
    (ho : o.op = .call { callee := .builtin .append, args := #[s, x], argTypes := #[t, t] })
    (ht : P.underlying t = some (.slice e)) (hinfo : (P.info? e).map (fun i => (i.zero, i.size, i.bytes)) = some (some (.int k 0), 1, bytes)) (hb0 : 0 < bytes)
    (v : Value) (xs ys : List Int) (A : Option Addr) (m c : Nat) (hs : a.eval s = v) (hx : a.eval x = .slice A m c)
    (HO : W.ownsRow base e 1 v xs.length (nums k xs)) (HR : ReadsInt W k A m ys) (HB : Below base w0 W) (hbase : base ≤ W.heap.size) (hl : (xs.length + m) * bytes ≤ 140737488355328)
    (h : ∀ v1 w1, w1.ownsRow base e 1 v1 (xs ++ ys).length (nums k (xs ++ ys)) → Below base w0 w1 → W.grownBy w1 v.ownBlock → K (a.put o.dst v1) w1) :
    if Region.wanted o (yielded ops a.tmps) = true then Oper.wp P o a W K Q else E := by
  have hp := app_row_run (P := P) base t o.type e k bytes ht hinfo hb0 v xs ys A m c HO HR hbase hl
  obtain ⟨v1, w1, hr, hown, hg⟩ := hp
  rw [if_pos hw]
  unfold Oper.wp execOp
  simp only [ho, resolve, invoke, builtin, Sem.run_bind, Sem.run_pure, Result.andThen_ok, List.map_toArray, List.map_cons, List.map_nil, hs, hx, hr]
  exact h v1 w1 hown (HB.grown hg hbase (own_base HO)) hg
/-- append(v, x), x any value of one cell, as one step of a region. -/
theorem step_val {w0 W : World} {E : Prop} (base : Nat) (hw : Region.wanted o (yielded ops a.tmps) = true) (s x : Operand) (t e : TypeId) (z : Value) (bytes H : Nat) (hH : W.heap.size = H)
    (ho : o.op = .call { callee := .builtin .append, args := #[s, x], argTypes := #[t, t] })
    (ht : P.underlying t = some (.slice e)) (hinfo : (P.info? e).map (fun i => (i.zero, i.size, i.bytes)) = some (some z, 1, bytes)) (hz : z.cells.size = 1) (hb0 : 0 < bytes)
    (v : Value) (xs : List Value) (y : Value) (hs : a.eval s = v) (hx : a.eval x = .slice (some ⟨H, 0, none⟩) 1 1) (h1 : y.oneCell' = true)
    (HO : W.ownsRow base e 1 v xs.length xs) (HB : Below base w0 W) (hbase : base ≤ W.heap.size) (hl : (xs.length + 1) * bytes ≤ 140737488355328)
    (h : ∀ v1 w1, w1.ownsRow base e 1 v1 (xs ++ [y]).length (xs ++ [y]) → Below base w0 w1 → W.grownBy w1 v.ownBlock → (v1.ownBlock = v.ownBlock ∨ ∃ b, v1.ownBlock = some b ∧ W.heap.size ≤ b) → K (a.put o.dst v1) w1) :
    if Region.wanted o (yielded ops a.tmps) = true then Oper.wp P o a (W.alloc (.cells #[y] e)) K Q else E := by
  subst hH
  have := step_append_cells (P := P) (Q := Q) (K := K) (a := a) (o := o) (ops := ops) (w0 := w0) (W := W) base hw s x t e z 1 bytes ho ht hinfo hz (by decide) hb0 v xs.length xs [y] hs hx rfl (by intro u hu; rw [List.mem_singleton] at hu; subst hu; exact h1) HO HB hbase hl (fun v1 w1 g1 g2 g3 g4 => h v1 w1 (by simpa using g1) g2 g3 g4)
  rw [if_pos hw] at this ⊢
  exact this
end

/-- Blocks of ints are as they were. -/
def IntKept (w w' : World) : Prop := ∀ (g : Nat) (cur : Array Value), w.heap[g]? = some (.cells cur 3 (0, 0)) → w'.heap[g]? = some (.cells cur 3 (0, 0))
theorem IntKept.refl (w : World) : IntKept w w := fun _ _ h => h
theorem IntKept.trans {a b c : World} (h : IntKept a b) (k : IntKept b c) : IntKept a c := fun g cur hg => k g cur (h g cur hg)
theorem IntKept.alloc {a b : World} (h : IntKept a b) (o : Obj) : IntKept a (b.alloc o) := fun g cur hg => blk_alloc (h g cur hg) o
theorem IntKept.below {a b c : World} (h : IntKept a b) (k : Below b.heap.size b c) : IntKept a c := fun g cur hg => blk_below (h g cur hg) k
theorem IntKept.grown {a b c : World} {B : Nat} {v : Value} {n s : Nat} {xs : List Value} {e : TypeId} (h : IntKept a b) (ho : b.ownsRow B e s v n xs) (he : e ≠ 3) (hg : b.grownBy c v.ownBlock) : IntKept a c := fun g cur hh =>
  blk_grown (h g cur hh) hg (own_ne ho (h g cur hh) he)
theorem IntKept.set {a b : World} (h : IntKept a b) {p : Addr} {cs : Array Value} {t : TypeId} (hp : b.heap[p.block]? = some (.cells cs t (0, 0))) (ht : t ≠ 3) (u : Value) : IntKept a (b.setCell p u) := fun g cur hg => by
  have hh := h g cur hg
  rw [Below.heap_setCell _ _ _ _ (blk_ne hh hp (fun e => ht e.symm))]
  exact hh

/-- A row of ints, as Runes leaves it. -/
def RowAt (w : World) (A : Option Addr) (l : List Int) : Prop := (l = [] ∧ A = none) ∨ ∃ g cur, A = some ⟨g, 0, none⟩ ∧ w.heap[g]? = some (.cells cur 3 (0, 0)) ∧ cur.toList.take l.length = nums .i64 l
theorem RowAt.kept {w w' : World} {A : Option Addr} {l : List Int} (h : RowAt w A l) (k : IntKept w w') : RowAt w' A l := by
  rcases h with h | ⟨g, cur, hA, hg, ht⟩
  · exact .inl h
  · exact .inr ⟨g, cur, hA, k g cur hg, ht⟩
theorem RowAt.C {w : World} {A : Option Addr} {l : List Int} (h : RowAt w A l) (hl : l.length ≤ 1000000) : Kd.C (Kd.int .i64) w A l.length l := by
  rcases h with ⟨rfl, rfl⟩ | ⟨g, cur, rfl, hg, ht⟩
  · exact Kd.C_nil _ _
  · exact int_C hg (by omega) ht
theorem rowAt_own {w : World} {B : Nat} {v : Value} {l : List Int} (h : w.ownsRow B 3 1 v l.length (nums .i64 l)) : ∃ A c, v = .slice A l.length c ∧ l.length ≤ c ∧ RowAt w A l := by
  rcases h.2 with ⟨rfl, hn⟩ | ⟨g, cap, cur, rfl, hB, hh, hnc, hcm, hcs, ht⟩
  · exact ⟨none, 0, by rw [hn], by omega, .inl ⟨List.eq_nil_of_length_eq_zero hn, rfl⟩⟩
  · exact ⟨_, cap, rfl, hnc, .inr ⟨g, cur, rfl, hh, by rw [← ht, Nat.mul_one]⟩⟩
theorem infoRow : (Tryd.prog.info? 22).map (fun i => (i.zero, i.size, i.bytes)) = some (some (.slice none 0 0), 1, 24) := by kernel_rfl

/-- A book in block b: its lists and its copies. -/
structure BookIs (w : World) (B b : Nat) (vl vw : Value) (Ls Ws : List Value) (n : Int) : Prop where
  blk : w.heap[b]? = some (.cells #[vl, vw, .int .i64 n, .bool false] 51 (0, 0))
  ol : w.ownsRow B 22 1 vl Ls.length Ls
  ow : w.ownsRow B 22 1 vw Ws.length Ws
  ne : NeRow vl vw
theorem blk4_set {w : World} {b : Nat} {c0 c1 c2 c3 : Value} {T : TypeId} (h : w.heap[b]? = some (.cells #[c0, c1, c2, c3] T (0, 0))) :
    (∀ v, (w.setCell ⟨b, 0, none⟩ v).heap[b]? = some (.cells #[v, c1, c2, c3] T (0, 0))) ∧ (∀ v, (w.setCell ⟨b, 1, none⟩ v).heap[b]? = some (.cells #[c0, v, c2, c3] T (0, 0))) ∧ (∀ v, (w.setCell ⟨b, 2, none⟩ v).heap[b]? = some (.cells #[c0, c1, v, c3] T (0, 0))) ∧ (∀ v, (w.setCell ⟨b, 3, none⟩ v).heap[b]? = some (.cells #[c0, c1, c2, v] T (0, 0))) :=
  ⟨fun v => blk_put h 0 v rfl, fun v => blk_put h 1 v rfl, fun v => blk_put h 2 v rfl, fun v => blk_put h 3 v rfl⟩

theorem BookIs.first {w w1 : World} {B b : Nat} {vl vw v1 : Value} {Ls Ws : List Value} {n : Int} {y : Value} (h : BookIs w B b vl vw Ls Ws n) (ho : w1.ownsRow B 22 1 v1 (Ls ++ [y]).length (Ls ++ [y])) (hg : w.grownBy w1 vl.ownBlock)
    (hat : v1.ownBlock = vl.ownBlock ∨ ∃ k, v1.ownBlock = some k ∧ w.heap.size ≤ k) : BookIs (w1.setCell ⟨b, 0, none⟩ v1) B b v1 vw (Ls ++ [y]) Ws n := by
  have hb := blk_grown h.blk hg (own_ne h.ol h.blk (by decide))
  exact ⟨(blk4_set hb).1 v1, own_setCell ho (own_ne ho hb (by decide)) _, own_setCell (own_other h.ow hg (ne_other h.ne)) (own_ne (own_other h.ow hg (ne_other h.ne)) hb (by decide)) _, ne_append h.ne hat h.ow⟩
theorem BookIs.grown0 {w w1 : World} {B b : Nat} {vl vw : Value} {Ls Ws : List Value} {n : Int} (h : BookIs w B b vl vw Ls Ws n) (hg : w.grownBy w1 none) : BookIs w1 B b vl vw Ls Ws n :=
  ⟨blk_grown h.blk hg (by simp), h.ol.kept hg (by by_cases hv : vl.ownBlock = none; exact .inl hv; exact .inr hv), h.ow.kept hg (by by_cases hv : vw.ownBlock = none; exact .inl hv; exact .inr hv), h.ne⟩
theorem BookIs.alloc {w : World} {B b : Nat} {vl vw : Value} {Ls Ws : List Value} {n : Int} (h : BookIs w B b vl vw Ls Ws n) (o : Obj) : BookIs (w.alloc o) B b vl vw Ls Ws n :=
  ⟨blk_alloc h.blk o, h.ol.alloc o, h.ow.alloc o, h.ne⟩
theorem BookIs.second {w w1 : World} {B b : Nat} {vl vw v1 : Value} {Ls Ws : List Value} {n : Int} {y : Value} (h : BookIs w B b vl vw Ls Ws n) (ho : w1.ownsRow B 22 1 v1 (Ws ++ [y]).length (Ws ++ [y])) (hg : w.grownBy w1 vw.ownBlock)
    (hat : v1.ownBlock = vw.ownBlock ∨ ∃ k, v1.ownBlock = some k ∧ w.heap.size ≤ k) : w1.heap[b]? = some (.cells #[vl, vw, .int .i64 n, .bool false] 51 (0, 0)) ∧ BookIs (w1.setCell ⟨b, 1, none⟩ v1) B b vl v1 Ls (Ws ++ [y]) n := by
  have hb := blk_grown h.blk hg (own_ne h.ow h.blk (by decide))
  have hl := own_other h.ol hg (ne_other (ne_symm h.ne))
  exact ⟨hb, (blk4_set hb).2.1 v1, own_setCell hl (own_ne hl hb (by decide)) _, own_setCell ho (own_ne ho hb (by decide)) _, ne_symm (ne_append (ne_symm h.ne) hat h.ol)⟩
theorem BookIs.third {w : World} {B b : Nat} {vl vw : Value} {Ls Ws : List Value} {n : Int} (h : BookIs w B b vl vw Ls Ws n) (m : Int) : BookIs (w.setCell ⟨b, 2, none⟩ (.int .i64 m)) B b vl vw Ls Ws m :=
  ⟨(blk4_set h.blk).2.2.1 _, own_setCell h.ol (own_ne h.ol h.blk (by decide)) _, own_setCell h.ow (own_ne h.ow h.blk (by decide)) _, h.ne⟩
theorem BookIs.c {w : World} {B b : Nat} {vl vw : Value} {Ls Ws : List Value} {n : Int} (h : BookIs w B b vl vw Ls Ws n) : w.cell? ⟨b, 0, none⟩ = some vl ∧ w.cell? ⟨b, 1, none⟩ = some vw ∧ w.cell? ⟨b, 2, none⟩ = some (.int .i64 n) ∧ w.cell? ⟨b, 3, none⟩ = some (.bool false) ∧ ∀ j, w.frozen? ⟨b, j, none⟩ = false :=
  ⟨(Lib.cell_of_heap h.blk 0).trans rfl, (Lib.cell_of_heap h.blk 1).trans rfl, (Lib.cell_of_heap h.blk 2).trans rfl, (Lib.cell_of_heap h.blk 3).trans rfl, fun j => Lib.frozen_of_heap h.blk j⟩

/-- What stands in Keep's second region. -/
structure KI (w0 : World) (B b : Nat) (vl vw : Value) (Ls Ws : List Value) (n : Int) (A : Option Addr) (l : List Int) (w : World) : Prop where
  bk : BookIs w B b vl vw Ls Ws n
  row : RowAt w A l
  below : Below B w0 w
  kept : IntKept w0 w

set_option maxHeartbeats 8000000 in
set_option maxRecDepth 100000 in
theorem keep_any (B b : Nat) (vl vw : Value) (Ls Ws : List Value) (n : Int) (A : Option Addr) (l : List Int) (w : World) (hb : BookIs w B b vl vw Ls Ws n) (hBb : B ≤ b) (hB : B ≤ w.heap.size) (h1 : Ls.length ≤ 1) (h2 : Ws.length = Ls.length) (hn : 0 ≤ n ∧ n ≤ 100000) (hr : RowAt w A l) (hl : l.length ≤ 4000) :
    Calls Tryd.prog 27 #[.pointer (some ⟨b, 0, none⟩), .slice A l.length l.length] w fun e w' => e = .returned (.tuple #[]) ∧ ∃ vl' vw' A' c', l.length ≤ c' ∧ RowAt w' A' l ∧
      BookIs w' B b vl' vw' (Ls ++ [.slice A l.length l.length]) (Ws ++ [.slice A' l.length c']) (n + l.length + 1) ∧ Below B w w' ∧ IntKept w w' := by
  have HBK := Aside0.mk hb
  have HR := Aside0.mk hr
  clear hb hr
  have hbl : b < w.heap.size := blk_lt HBK.out.blk
  have HBL := Aside0.mk (Below.refl B w)
  go_enter Tryd.func27, Tryd.ntmps27
  have c0 : w.cell? ⟨b, 0, none⟩ = some vl := (Lib.cell_of_heap HBK.out.blk 0).trans rfl
  go_wp2_with (first
    | (at_builtin; refine print_append (w0 := w) B rfl (.tmp 8) (.tmp 10) 49 22 (.slice none 0 0) 24 rfl Tryd.underlying49 infoRow rfl (by decide) vl Ls (.slice A l.length l.length) rfl rfl rfl (by exact HBK.out.ol) (by exact Below.refl _ _) (by exact hB) (by omega) ?_; intro v1 w1 ho1 hb1 hg1 hat1; obtain ⟨Aq, cq, hq⟩ := own_slice ho1; subst hq; have HO1 := Aside0.mk ho1; have HB1 := Aside0.mk hb1; have HG1 := Aside0.mk hg1; have HA1 := Aside0.mk hat1; have hg1b := blk_grown HBK.out.blk hg1 (own_ne HBK.out.ol HBK.out.blk (by decide)); have d0 : w1.cell? ⟨b, 0, none⟩ = some vl := (Lib.cell_of_heap hg1b 0).trans rfl; have y0 := Lib.frozen_of_heap hg1b 0; have HGB := Aside0.mk hg1b; clear ho1 hb1 hg1 hat1 hg1b))
  have HK1 := Aside0.mk (HBK.out.first HO1.out HG1.out HA1.out)
  have HI1 := Aside0.mk (((IntKept.refl w).grown HBK.out.ol (by decide) HG1.out).set (p := ⟨b, 0, none⟩) HGB.out (by decide) (.slice Aq (Ls ++ [Value.slice A l.length l.length]).length cq))
  have HB1' := Aside0.mk (HB1.out.setCell (p := ⟨b, 0, none⟩) hBb (.slice Aq (Ls ++ [Value.slice A l.length l.length]).length cq))
  have hll : (Ls ++ [Value.slice A l.length l.length]).length = Ls.length + 1 := by simp
  rw [hll] at HK1 HI1 HB1'
  obtain ⟨W1, hW1⟩ : ∃ W1, w1.setCell ⟨b, 0, none⟩ (.slice Aq (Ls.length + 1) cq) = W1 := ⟨_, rfl⟩
  rw [hW1] at HK1 HI1 HB1'
  rw [hW1]
  have HR1 := Aside0.mk (HR.out.kept HI1.out)
  obtain ⟨k0, k1, k2, k3, kz⟩ := HK1.out.c
  clear hW1 hll d0 y0
  have z1 := kz 1
  have HKd := Aside0.mk (⟨HK1.out.blk, HK1.out.ol, HK1.out.ow, HK1.out.ne⟩ : BookIs W1.drew B b (.slice Aq (Ls.length + 1) cq) vw (Ls ++ [.slice A l.length l.length]) Ws n)
  have hBW := HB1'.out.size
  have hle : B ≤ W1.heap.size := Nat.le_trans hB hBW
  go_region_law (first
    | (refine step_row_int (w0 := W1) W1.heap.size (by rfl) (.const (.slice none 0 0)) (.tmp 19) 22 3 .i64 8 rfl Tryd.underlying22 infoInt (by decide) (.slice none 0 0) [] l A l.length l.length rfl rfl (own_nil _ W1.heap.size 3 1) (by exact int_reads (HR1.out.C (by omega))) (by exact bl_drew (Below.refl _ _)) (by exact Nat.le_refl _) (by simp; omega) ?_; intro v2 w2 ho2 hb2 hg2; rw [List.nil_append] at ho2; obtain ⟨A2, c2, hq2, hc2, hra2⟩ := rowAt_own ho2; subst hq2; have HC2 := Aside0.mk hc2; have HRA2 := Aside0.mk hra2; have HK2 := Aside0.mk (HKd.out.grown0 (w1 := w2) (by exact hg2)); have HB2 := Aside0.mk hb2; have m1 := HK2.out.c.2.1; have m2 := (HK2.out.alloc (.cells #[.slice A2 l.length c2] 22)).c.2.1; have hw2 := hb2.size; clear ho2 hb2 hg2 hc2 hra2)
    | (refine step_val (w0 := w2) B (by rfl) (.tmp 18) (.tmp 21) 49 22 (.slice none 0 0) 24 w2.heap.size rfl rfl Tryd.underlying49 infoRow rfl (by decide) vw Ws (.slice A2 l.length c2) rfl rfl rfl (by exact HK2.out.ow) (by exact Below.refl _ _) (by exact Nat.le_trans hle hw2) (by omega) ?_; intro v3 w3 ho3 hb3 hg3 hat3; obtain ⟨A3, c3, hq3⟩ := own_slice ho3; subst hq3; have hs3 := HK2.out.second ho3 hg3 hat3; have n1 : w3.cell? ⟨b, 1, none⟩ = some vw := (Lib.cell_of_heap hs3.1 1).trans rfl; have nz := Lib.frozen_of_heap hs3.1 1; have HS3 := Aside0.mk hs3; have HB3 := Aside0.mk hb3; have HI3 := Aside0.mk ((IntKept.refl w2).grown HK2.out.ow (by decide) hg3); clear ho3 hb3 hg3 hat3 hs3))
  all_goals
    have hb2 := HS3.out.2
    have hll3 : (Ws ++ [Value.slice A2 l.length c2]).length = Ls.length + 1 := by simp [h2]
    rw [hll3] at hb2
    have HIW := Aside0.mk (((IntKept.refl W1).below HB2.out).trans (HI3.out.set (p := ⟨b, 1, none⟩) HS3.out.1 (by decide) (.slice A3 (Ls.length + 1) c3)))
    have HI23 := Aside0.mk (HI3.out.set (p := ⟨b, 1, none⟩) HS3.out.1 (by decide) (.slice A3 (Ls.length + 1) c3))
    have HBW := Aside0.mk ((bl_trans (Below.refl W1.heap.size W1) HB2.out).size)
    have HBW3 := Aside0.mk (HB3.out.setCell (p := ⟨b, 1, none⟩) hBb (.slice A3 (Ls.length + 1) c3))
    obtain ⟨W3, hW3⟩ : ∃ W3, w3.setCell ⟨b, 1, none⟩ (.slice A3 (Ls.length + 1) c3) = W3 := ⟨_, rfl⟩
    rw [hW3] at hb2 HIW HBW3 HI23
    rw [hW3]
    have HK3 := Aside0.mk hb2
    have HK4 := Aside0.mk (hb2.third (n + l.length + 1))
    have HI5 := Aside0.mk (HI23.out.set (p := ⟨b, 2, none⟩) hb2.blk (by decide) (.int .i64 (n + l.length + 1)))
    have HI4 := Aside0.mk (HIW.out.set (p := ⟨b, 2, none⟩) hb2.blk (by decide) (.int .i64 (n + l.length + 1)))
    obtain ⟨j0, j1, j2, j3, jz⟩ := hb2.c
    have jz2 := jz 2
    clear hb2 hW3 hll3 jz n1 nz m1 m2 k0 k1 k2 k3 kz z1 HKd
    have q2 : (n + (l.length : Int) + 1 > 1000000) = False := eq_false (by omega)
    have hlen : Ls.length = 0 ∨ Ls.length = 1 := by omega
    rcases hlen with hlen | hlen
    · have q3 : ((Ls.length : Int) + 1 > 1) = False := eq_false (by omega)
      clear hlen h2
      go_wp2
      refine wp_loop_rounds 1 ?_
      rw [rounds_succ]
      go_wp2
      go_end0
      exact ⟨rfl, _, _, A2, c2, HC2.out, HRA2.out.kept HI5.out, HK4.out, ((HB1'.out.trans (HB2.out.mono hle)).trans HBW3.out).setCell hBb _, HI1.out.trans HI4.out⟩
    · have q3 : ((Ls.length : Int) + 1 > 1) = True := eq_true (by omega)
      have q4 : ((Ls.length : Int) + 1 > 4000) = False := eq_false (by omega)
      clear hlen h2
      go_wp2
      refine wp_loop_rounds 1 ?_
      rw [rounds_succ]
      go_wp2
      go_end0
      exact ⟨rfl, _, _, A2, c2, HC2.out, HRA2.out.kept HI5.out, HK4.out, ((HB1'.out.trans (HB2.out.mono hle)).trans HBW3.out).setCell hBb _, HI1.out.trans HI4.out⟩
end Go.Proofs.YtgdfgahpjebcaaaDoor
