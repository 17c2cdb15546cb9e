/-
  Num: what every walk leans on: strconv's table stands as it was laid (Env), and stays so while nothing below the call's own blocks is written.
-/
import Derived.Test.YtjaongknagmfiaaGreatDoorProg
import Derived.WalkKit
import Derived.WalkSmall
import Derived.Lib.LaidTab
import Derived.Lib.AppendIntMem
import Derived.Lib.ItoaLen
import Derived.Lib.ItoaMem
namespace Go.Proofs.YtjaongknagmfiaaGreatDoor
open Go.RowKit

/-- The listed variable: strconv's table of powers of ten is laid. -/
structure Env (w : World) : Prop where
  tab : Lib.TabIs Tryz.prog w "internal/strconv.uint64pow10" .u64 Lib.pow10Tab
  size : 4 ≤ w.heap.size

theorem Tryz.globPow : Tryz.prog.globalNamed "internal/strconv.uint64pow10" = some 1 := by kernel_rfl

theorem Env.below {B : Nat} {w w' : World} (h : Env w) (hb : Below B w w') (hB : 4 ≤ B) : Env w' where
  tab := var?_below hb Tryz.globPow (by omega) h.tab
  size := Nat.le_trans h.size hb.size

/-- Below, out of a Below that begins later. -/
theorem below_later {w w1 w2 : World} (h1 : Below w.heap.size w w1) (h2 : Below w1.heap.size w1 w2) : Below w.heap.size w w2 := h1.trans (h2.mono h1.size)
theorem below_drewN {B : Nat} {a w : World} (h : Below B a w) (n : Nat) : Below B a (w.drewN n) := by
  induction n with
  | zero => exact h
  | succ n ih => rw [← World.drew_drewN]; exact ih.drew
theorem below_grow {B : Nat} {a w : World} (h : Below B a w) (hB : B ≤ w.heap.size) (os : Array Obj) : Below B a (Go.Sort.grow w os) :=
  h.trans ⟨rfl, rfl, rfl, by simp [Go.Sort.grow], fun k hk => by simp only [Go.Sort.grow]; rw [Array.getElem?_append_left (by omega)]⟩
/-! The same, for a world that the walk writes out: the steps of 'repeat (first | exact Below.refl _ _ | refine bl_drew ?_ | ..)'. -/
theorem bl_drew {a w : World} (h : Below a.heap.size a w) : Below a.heap.size a w.drew := h.drew
theorem bl_drewN {a w : World} (h : Below a.heap.size a w) (n : Nat) : Below a.heap.size a (w.drewN n) := below_drewN h n
theorem bl_alloc {a w : World} (h : Below a.heap.size a w) (o : Obj) : Below a.heap.size a (w.alloc o) := h.alloc h.size o
theorem bl_grow {a w : World} (h : Below a.heap.size a w) (os : Array Obj) : Below a.heap.size a (Go.Sort.grow w os) := below_grow h h.size os
theorem bl_trans {a w w' : World} (h : Below a.heap.size a w) (k : Below w.heap.size w w') : Below a.heap.size a w' := below_later h k
theorem bl_set {a w : World} (h : Below a.heap.size a w) {p : Addr} (hp : a.heap.size ≤ p.block) (u : Value) : Below a.heap.size a (w.setCell p u) := h.setCell hp u
end Go.Proofs.YtjaongknagmfiaaGreatDoor
