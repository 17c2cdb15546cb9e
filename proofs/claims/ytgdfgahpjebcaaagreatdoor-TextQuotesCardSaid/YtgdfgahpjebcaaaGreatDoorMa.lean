import Derived.Test.YtgdfgahpjebcaaaGreatDoorProg
import Derived.WalkKit
import Derived.LaidEql
import Derived.Stop.Asserts
import Derived.RowKitTokens
import Derived.WalkSmall
import Derived.Lib.LaidTab
import Derived.Lib.AppendIntMem
import Derived.Lib.ItoaLen
import Derived.Lib.ItoaMem
import Derived.Test.YtgdfgahpjebcaaaGreatDoorShelf
import Derived.Test.YtgdfgahpjebcaaaGreatDoorPTx
import Derived.Deep.RegionHeld3
import Derived.Lib.Hide
import Derived.Laws.BitsLemmas
import Derived.Laws.BitsAllLaws
import Derived.Below
import Derived.Laws.BytesArg
import Derived.Test.YtgdfgahpjebcaaaGreatDoorWWords
import Derived.Deep.AppendLies
set_option linter.unusedSimpArgs false
set_option linter.unusedVariables false
/-
  The contracts of errors.As and errors.Is at a text.Refusal, and of the methods Where, Error and Unwrap. After the kit's worked examples Toyas and Sentry.
-/
namespace Go.Proofs.YtgdfgahpjebcaaaGreatDoor
open Go.RowKit Go.Extern.Stop Go.Stop Go.Extern

/-! Numbers: 55 is a pointer to a Refusal, 85 a pointer to that, 30 error, 113 the type of types, 98 reflectlite's Value. -/

/-- errors.As(nil, target). -/
theorem as_nil (t : Value) (w : World) :
    Calls Tryz.prog 42 #[.nilIface, t] w fun e w' => e = .returned (.bool false) ∧ w' = w := by
  go_enter Tryz.func42, Tryz.ntmps42
  go_wp2
  go_ret
  exact ⟨rfl, rfl⟩

theorem Tryz.valueOfPP (t : Addr) (w : World) : (ReflectliteValue.unpack (.iface 85 (.pointer (some t)))).run Tryz.prog w
    = .ok (.agg #[.pointer (some ⟨4, 85, none⟩), .pointer (some ⟨w.heap.size, 0, none⟩), .int .u64 150]) (w.alloc (.cells #[.pointer (some t)] 85)) := by kernel_rfl
theorem Tryz.typePP (a : Addr) (w : World) : (ReflectliteValue.methodAny (ReflectliteValue.valueError "reflectlite.Value.Type" 0) (fun t _ _ _ => ReflectliteType.toType t) #[.agg #[.pointer (some ⟨4, 85, none⟩), .pointer (some a), .int .u64 150]]).run Tryz.prog w
    = .ok (.iface 113 (.agg #[.pointer (some ⟨4, 85, none⟩)])) w := by kernel_rfl
theorem Tryz.methodKind (h : Value) (w : World) : (Go.method 270 113 (.agg #[h]) "Kind").run Tryz.prog w = .ok (101, h) w := by kernel_rfl
theorem Tryz.kindPP (w : World) : ((ReflectliteType.abiMethod fun t => (fun a : Nat => Value.int IntKind.u8 (a : Int)) <$> Rtype.kind t) #[.pointer (some ⟨4, 85, none⟩)]).run Tryz.prog w = .ok (.int .u8 22) w := by kernel_rfl
theorem Tryz.kindP (w : World) : ((ReflectliteType.abiMethod fun t => (fun a : Nat => Value.int IntKind.u8 (a : Int)) <$> Rtype.kind t) #[.pointer (some ⟨4, 55, none⟩)]).run Tryz.prog w = .ok (.int .u8 22) w := by kernel_rfl

theorem rlm (z : Sem Value) (f : TypeId → Addr → Nat → Nat → Sem Value) (v : Value) :
    ReflectliteValue.method z f #[v] = (do match ← ReflectliteValue.parts v with | none => z | some (t, a, fl) => f t a fl (fl % 32)) := rfl
theorem Tryz.partsPP (a : Addr) (w : World) : (ReflectliteValue.parts (.agg #[.pointer (some ⟨4, 85, none⟩), .pointer (some a), .int .u64 150])).run Tryz.prog w = .ok (some (85, a, 150)) w := by kernel_rfl
theorem Tryz.isNilPP (a p : Addr) (W : World) (ha : W.cell? a = some (.pointer (some p))) :
    (ReflectliteValue.method (ReflectliteValue.valueError "reflectlite.Value.IsNil" 0) ReflectliteValue.isNil #[.agg #[.pointer (some ⟨4, 85, none⟩), .pointer (some a), .int .u64 150]]).run Tryz.prog W = .ok (.bool false) W := by
  rw [rlm]
  simp only [Sem.run_bind, Tryz.partsPP, Result.andThen]
  simp [ReflectliteValue.isNil, loadVar, isAgg, underlying, Tryz.underlying85, ha, Result.andThen]

theorem Tryz.methodElem (h : Value) (w : World) : (Go.method 270 113 (.agg #[h]) "Elem").run Tryz.prog w = .ok (112, .agg #[h]) w := by kernel_rfl
theorem Tryz.methodImplements (h : Value) (w : World) : (Go.method 270 113 (.agg #[h]) "Implements").run Tryz.prog w = .ok (113, .agg #[h]) w := by kernel_rfl
theorem Tryz.methodAssignableTo (h : Value) (w : World) : (Go.method 270 113 (.agg #[h]) "AssignableTo").run Tryz.prog w = .ok (110, .agg #[h]) w := by kernel_rfl
theorem Tryz.elemPP (w : World) : (ReflectliteType.method ReflectliteType.elem #[.agg #[.pointer (some ⟨4, 85, none⟩)]]).run Tryz.prog w = .ok (.iface 113 (.agg #[.pointer (some ⟨4, 55, none⟩)])) w := by kernel_rfl
theorem Tryz.implementsP (w : World) : (ReflectliteType.relation "Implements" ReflectliteType.implements_ #[.agg #[.pointer (some ⟨4, 55, none⟩)], .iface 113 (.agg #[.pointer (some ⟨4, 30, none⟩)])]).run Tryz.prog w = .ok (.bool true) w := by kernel_rfl
theorem Tryz.typeOfP (v : Value) (w : World) : (ReflectliteType.typeOf #[.iface 55 v]).run Tryz.prog w = .ok (.iface 113 (.agg #[.pointer (some ⟨4, 55, none⟩)])) w := by kernel_rfl
theorem Tryz.assignableP (w : World) : (ReflectliteType.relation "AssignableTo" ReflectliteType.assignableTo #[.agg #[.pointer (some ⟨4, 55, none⟩)], .iface 113 (.agg #[.pointer (some ⟨4, 55, none⟩)])]).run Tryz.prog w = .ok (.bool true) w := by kernel_rfl
theorem Tryz.valueOfP (e : Addr) (w : World) : (ReflectliteValue.unpack (.iface 55 (.pointer (some e)))).run Tryz.prog w
    = .ok (.agg #[.pointer (some ⟨4, 55, none⟩), .pointer (some ⟨w.heap.size, 0, none⟩), .int .u64 150]) (w.alloc (.cells #[.pointer (some e)] 55)) := by kernel_rfl

theorem Tryz.elemOfPP (w : World) : (Rtype.elem? 85).run Tryz.prog w = .ok (some 55) w := by kernel_rfl
theorem Tryz.mkP (p : Addr) (w : World) : (ReflectliteValue.mk 55 p ReflectliteValue.flagAddr).run Tryz.prog w = .ok (.agg #[.pointer (some ⟨4, 55, none⟩), .pointer (some p), .int .u64 406]) w := by kernel_rfl
theorem Tryz.elemVPP (a p : Addr) (W : World) (ha : W.cell? a = some (.pointer (some p))) :
    (ReflectliteValue.method (ReflectliteValue.valueError "reflectlite.Value.Elem" 0) ReflectliteValue.elem #[.agg #[.pointer (some ⟨4, 85, none⟩), .pointer (some a), .int .u64 150]]).run Tryz.prog W
      = .ok (.agg #[.pointer (some ⟨4, 55, none⟩), .pointer (some p), .int .u64 406]) W := by
  rw [rlm]
  simp only [Sem.run_bind, Tryz.partsPP, Result.andThen]
  simp [ReflectliteValue.elem, loadVar, isAgg, underlying, Tryz.underlying85, ha, Result.andThen, Tryz.elemOfPP, Tryz.mkP]
theorem rls (v x : Value) : ReflectliteValue.set #[v, x] = (do
    let (some (dst, a, fl), some (src, b, _)) := (← ReflectliteValue.parts v, ← ReflectliteValue.parts x)
      | unsupported (.noEntry "extern/(internal/reflectlite.Value).Set.zeroValue")
    if fl / ReflectliteValue.flagAddr % 2 == 0 then unsupported (.noEntry "extern/(internal/reflectlite.Value).Set.unaddressable")
    let val ← loadVar src b
    if ← Rtype.directlyAssignable dst src then storeVar dst a val
    else if ← Rtype.implements dst src then
      if (← Rtype.kind src) == 20 then
        match val with
        | .nilIface => unsupported (.noEntry "extern/reflectlite: a nil value of one interface type handed on as a value of another")
        | _ => storeVar dst a val
      else storeVar dst a (.iface src val)
    else panicString ("reflectlite.Set: value of type " ++ (← Rtype.spelt src) ++ " is not assignable to type " ++ (← Rtype.spelt dst))
    pure (.tuple #[])) := rfl
theorem Tryz.partsPa (a : Addr) (w : World) : (ReflectliteValue.parts (.agg #[.pointer (some ⟨4, 55, none⟩), .pointer (some a), .int .u64 406])).run Tryz.prog w = .ok (some (55, a, 406)) w := by kernel_rfl
theorem Tryz.partsP (a : Addr) (w : World) : (ReflectliteValue.parts (.agg #[.pointer (some ⟨4, 55, none⟩), .pointer (some a), .int .u64 150])).run Tryz.prog w = .ok (some (55, a, 150)) w := by kernel_rfl
theorem Tryz.directP (w : World) : (Rtype.directlyAssignable 55 55).run Tryz.prog w = .ok true w := by kernel_rfl
theorem Tryz.setP (ta b e : Addr) (old : Value) (W : World) (hb : W.cell? b = some (.pointer (some e))) (ht : W.cell? ta = some old) (hf : W.frozen? ta = false) :
    (ReflectliteValue.set #[.agg #[.pointer (some ⟨4, 55, none⟩), .pointer (some ta), .int .u64 406], .agg #[.pointer (some ⟨4, 55, none⟩), .pointer (some b), .int .u64 150]]).run Tryz.prog W
      = .ok (.tuple #[]) (W.setCell ta (.pointer (some e))) := by
  rw [rls]
  simp only [Sem.run_bind, Tryz.partsPa, Tryz.partsP, Result.andThen]
  simp [ReflectliteValue.flagAddr, loadVar, isAgg, underlying, Tryz.underlying55, hb, Result.andThen, Tryz.directP, storeVar, Value.cells, storeCells, Addr.add]
  rw [run_store Tryz.prog W ta _ _ (by rfl)]
  simp [ht, hf]

/-- The world behind errors.As. -/
def asWorld (e t : Addr) (w : World) : World :=
  ((((w.alloc (.cells #[.pointer (some t)] 85)).alloc (.cells #[.pointer (some ⟨4, 85, none⟩), .pointer (some ⟨w.heap.size, 0, none⟩), .int .u64 150] 98)).alloc (.cells #[.pointer (some ⟨4, 85, none⟩), .pointer (some ⟨w.heap.size, 0, none⟩), .int .u64 150] 98)).alloc (.cells #[.pointer (some e)] 55)).setCell t (.pointer (some e))

set_option maxHeartbeats 4000000 in
theorem as_hit (e t : Addr) (old : Value) (w : World) (hg : w.cell? ⟨0, 0, none⟩ = some (.iface 113 (.agg #[.pointer (some ⟨4, 30, none⟩)]))) (ht0 : w.cell? t = some old) (hf0 : w.frozen? t = false) :
    Calls Tryz.prog 42 #[.iface 55 (.pointer (some e)), .iface 85 (.pointer (some t))] w fun ev w' => ev = .returned (.bool true) ∧ w' = asWorld e t w := by
  have hVO := @run_callFunc_extern Tryz.prog 58 _ (fun args => ReflectliteValue.unpack (args.getD 0 (.tuple #[]))) Tryz.func58 (by kernel_rfl) (by kernel_rfl) (by kernel_rfl) (by kernel_rfl)
  have hTy := @run_callFunc_extern Tryz.prog 59 _ (ReflectliteValue.methodAny (ReflectliteValue.valueError "reflectlite.Value.Type" 0) (fun t _ _ _ => ReflectliteType.toType t)) Tryz.func59 (by kernel_rfl) (by kernel_rfl) (by kernel_rfl) (by kernel_rfl)
  have hIN := @run_callFunc_extern Tryz.prog 60 _ (ReflectliteValue.method (ReflectliteValue.valueError "reflectlite.Value.IsNil" 0) ReflectliteValue.isNil) Tryz.func60 (by kernel_rfl) (by kernel_rfl) (by kernel_rfl) (by kernel_rfl)
  have hKi := @run_callFunc_extern Tryz.prog 101 _ (ReflectliteType.abiMethod fun t => do pure (.int .u8 (← Rtype.kind t))) Tryz.func101 (by kernel_rfl) (by kernel_rfl) (by kernel_rfl) (by kernel_rfl)
  have hEl := @run_callFunc_extern Tryz.prog 112 _ (ReflectliteType.method ReflectliteType.elem) Tryz.func112 (by kernel_rfl) (by kernel_rfl) (by kernel_rfl) (by kernel_rfl)
  have hIm := @run_callFunc_extern Tryz.prog 113 _ (ReflectliteType.relation "Implements" ReflectliteType.implements_) Tryz.func113 (by kernel_rfl) (by kernel_rfl) (by kernel_rfl) (by kernel_rfl)
  have hTO := @run_callFunc_extern Tryz.prog 64 _ ReflectliteType.typeOf Tryz.func64 (by kernel_rfl) (by kernel_rfl) (by kernel_rfl) (by kernel_rfl)
  have hAs := @run_callFunc_extern Tryz.prog 110 _ (ReflectliteType.relation "AssignableTo" ReflectliteType.assignableTo) Tryz.func110 (by kernel_rfl) (by kernel_rfl) (by kernel_rfl) (by kernel_rfl)
  have hVE := @run_callFunc_extern Tryz.prog 70 _ (ReflectliteValue.method (ReflectliteValue.valueError "reflectlite.Value.Elem" 0) ReflectliteValue.elem) Tryz.func70 (by kernel_rfl) (by kernel_rfl) (by kernel_rfl) (by kernel_rfl)
  have hSe := @run_callFunc_extern Tryz.prog 71 _ ReflectliteValue.set Tryz.func71 (by kernel_rfl) (by kernel_rfl) (by kernel_rfl) (by kernel_rfl)
  have tO := Tryz.typeOfP
  have mA := Tryz.methodAssignableTo
  have aP := Tryz.assignableP
  have vP := Tryz.valueOfP
  have fV := Tryz.valueOfPP
  have fT := Tryz.typePP
  have mK := Tryz.methodKind
  have mE := Tryz.methodElem
  have mI := Tryz.methodImplements
  have kPP := Tryz.kindPP
  have kP := Tryz.kindP
  have ePP := Tryz.elemPP
  have iP := Tryz.implementsP
  have nI := Tryz.isNilPP ⟨w.heap.size, 0, none⟩ t ((w.alloc (.cells #[.pointer (some t)] 85)).alloc (.cells #[.pointer (some ⟨4, 85, none⟩), .pointer (some ⟨w.heap.size, 0, none⟩), .int .u64 150] 98)) (by simp)
  have hlt : 0 < w.heap.size := by
    rcases Nat.lt_or_ge 0 w.heap.size with h | h
    · exact h
    · simp [World.cell?, Array.getElem?_eq_none h] at hg
  have hg2 : ((w.alloc (.cells #[.pointer (some t)] 85)).alloc (.cells #[.pointer (some ⟨4, 85, none⟩), .pointer (some ⟨w.heap.size, 0, none⟩), .int .u64 150] 98)).cell? ⟨0, 0, none⟩ = some (.iface 113 (.agg #[.pointer (some ⟨4, 30, none⟩)])) := by
    rw [World.cell?_alloc_lt _ _ ⟨0, 0, none⟩ (by first | (simp; done) | (simp; omega)), World.cell?_alloc_lt _ _ ⟨0, 0, none⟩ hlt]; exact hg
  have htl : t.block < w.heap.size := by
    rcases Nat.lt_or_ge t.block w.heap.size with h | h
    · exact h
    · simp [World.cell?, Array.getElem?_eq_none h] at ht0
  have el := Tryz.elemVPP ⟨w.heap.size, 0, none⟩ t (((w.alloc (.cells #[.pointer (some t)] 85)).alloc (.cells #[.pointer (some ⟨4, 85, none⟩), .pointer (some ⟨w.heap.size, 0, none⟩), .int .u64 150] 98)).alloc (.cells #[.pointer (some ⟨4, 85, none⟩), .pointer (some ⟨w.heap.size, 0, none⟩), .int .u64 150] 98)) (by rw [World.cell?_alloc_lt _ _ ⟨w.heap.size, 0, none⟩ (by simp; omega)]; simp)
  have st := Tryz.setP t ⟨w.heap.size + 1 + 1 + 1, 0, none⟩ e old ((((w.alloc (.cells #[.pointer (some t)] 85)).alloc (.cells #[.pointer (some ⟨4, 85, none⟩), .pointer (some ⟨w.heap.size, 0, none⟩), .int .u64 150] 98)).alloc (.cells #[.pointer (some ⟨4, 85, none⟩), .pointer (some ⟨w.heap.size, 0, none⟩), .int .u64 150] 98)).alloc (.cells #[.pointer (some e)] 55))
    (by rw [World.cell?_alloc_at _ _ _ _ (by simp)]; rfl)
    (by rw [World.cell?_alloc_lt _ _ t (by simp; omega), World.cell?_alloc_lt _ _ t (by simp; omega), World.cell?_alloc_lt _ _ t (by simp; omega), World.cell?_alloc_lt _ _ t htl]; exact ht0)
    (by rw [World.frozen?_alloc_old _ _ t (by simp; omega), World.frozen?_alloc_old _ _ t (by simp; omega), World.frozen?_alloc_old _ _ t (by simp; omega), World.frozen?_alloc_old _ _ t (Nat.ne_of_lt htl)]; exact hf0)
  go_enter Tryz.func42, Tryz.ntmps42
  go_wp2
  refine wp_loop_rounds 1 ?_
  rw [rounds_succ]
  go_wp2
  go_ret
  exact ⟨rfl, rfl⟩

/-! ### errors.Is at a Refusal and its number -/
theorem Tryz.isTypeOfN (v : Value) (w : World) : (Extern.ReflectliteType.typeOf #[.iface 23 v]).run Tryz.prog w = .ok (.iface 113 (.agg #[.pointer (some ⟨4, 23, none⟩)])) w := by kernel_rfl
theorem Tryz.isComparableN (w : World) : (callFunc 111 #[.agg #[.pointer (some ⟨4, 23, none⟩)]]).run Tryz.prog w = .ok (.value (.bool true)) w := by kernel_rfl
theorem Tryz.isMethodComparable (v : Value) (w : World) : (Go.method 270 113 v "Comparable").run Tryz.prog w = .ok (111, v) w := by kernel_rfl
theorem Tryz.compN : (Tryz.prog.info? 23).map (·.comparable) = some true := by kernel_rfl
theorem Tryz.noIsR (v : Value) (xT : TypeId) (w : World) : (Instr.typeAssert (.iface 55 v) xT 125 true).run Tryz.prog w = .ok (.tuple #[.nilIface, .bool false]) w := run_typeAssert_lacksB Tryz.underlying125 (by kernel_rfl) (by kernel_rfl) v xT w
theorem Tryz.hasUnwrapR (v : Value) (xT : TypeId) (w : World) : (Instr.typeAssert (.iface 55 v) xT 120 true).run Tryz.prog w = .ok (.tuple #[.iface 55 v, .bool true]) w := run_typeAssert_hasB Tryz.underlying120 (by kernel_rfl) v xT w
theorem Tryz.methodUnwrapR (v : Value) (w : World) : (Go.method 270 55 v "Unwrap").run Tryz.prog w = .ok (105, v) w := by kernel_rfl

section
variable {P : Program} (w : World)
/-- Two interface values of one integer type (after the kit's note 10). -/
theorem run_equalIn_iface_int (d : Nat) {ti tn : TypeId} {ms : Array (String × TypeId)} {i : TypeInfo} {k : IntKind} (a b : Int)
    (hi : P.underlying ti = some (.interface ms)) (hn : P.underlying tn = some (.int k)) (hinfo : P.info? tn = some i) (hcomp : i.comparable = true) :
    (Op.equalIn (d + 2) ti (.iface tn (.int k a)) (.iface tn (.int k b))).run P w = .ok (a == b) w := by
  simp [Op.equalIn, run_underlying hi, run_underlying hn, typeInfo, hinfo, hcomp]
theorem run_eql_iface_int {ti tn : TypeId} {ms : Array (String × TypeId)} {i : TypeInfo} {k : IntKind} (a b : Int)
    (hi : P.underlying ti = some (.interface ms)) (hn : P.underlying tn = some (.int k)) (hinfo : P.info? tn = some i) (hcomp : i.comparable = true) :
    (binOp .eql ti (.iface tn (.int k a)) (.iface tn (.int k b))).run P w = .ok (.bool (a == b)) w := by
  simp only [binOp]
  simp [Op.equal, Op.maxDepth, run_equalIn_iface_int w 9998 a b hi hn hinfo hcomp]
end

/-- errors.Is(r, r.Why), r a Refusal. -/
theorem is_hit (g : Nat) (why : Int) (w : World) (h1 : w.cell? ⟨g, 1, none⟩ = some (.int .i64 why)) :
    Calls Tryz.prog 45 #[.iface 55 (.pointer (some ⟨g, 0, none⟩)), .iface 23 (.int .i64 why)] w fun e w' => e = .returned (.bool true) ∧ w' = w := by
  obtain ⟨i, hi, hcmp⟩ := Option.map_eq_some_iff.1 Tryz.compN
  have hTO := @run_callFunc_extern Tryz.prog 64 _ Extern.ReflectliteType.typeOf Tryz.func64 (by kernel_rfl) (by kernel_rfl) (by kernel_rfl) (by kernel_rfl)
  have tT := Tryz.isTypeOfN
  have cT := Tryz.isComparableN
  have mR := Tryz.isMethodComparable
  have nE := Tryz.noIsR
  have uW := Tryz.hasUnwrapR
  have mU := Tryz.methodUnwrapR
  have heq := run_eql_iface_int (P := Tryz.prog) w why why Tryz.underlying30 Tryz.underlying23 hi hcmp
  have hb : (why == why) = true := by simp
  rw [hb] at heq
  clear hb
  have hty := run_eql_iface_types (P := Tryz.prog) 55 23 (.pointer (some ⟨g, 0, none⟩)) (.int .i64 why) Tryz.underlying30 (by decide) w
  go_enter Tryz.func45, Tryz.ntmps45
  go_wp2
  refine wp_loop_rounds 2 ?_
  rw [rounds_succ]
  go_wp2
  rw [rounds_succ]
  go_wp2
  go_ret
  exact ⟨rfl, rfl⟩

/-- The place of a Refusal: one more block. -/
theorem where_any (at_ : Int) (w : World) :
    Calls Tryz.prog 43 #[.agg #[.int .i64 at_]] w fun e w' => e = .returned (.int .i64 at_) ∧ w' = w.alloc (.cells #[.int .i64 at_] 79) := by
  go_enter Tryz.func43, Tryz.ntmps43
  go_wp2
  go_ret
  exact ⟨rfl, rfl⟩
end Go.Proofs.YtgdfgahpjebcaaaGreatDoor
/-
  What every walk of this seat leans on: the program's variables stand as they were laid (Env), and stay so while nothing below the call's own blocks is written.
-/
namespace Go.Proofs.YtgdfgahpjebcaaaGreatDoor
open Go.RowKit

/-- The listed variables: errors.errorType holds the type error's handle, strconv's table of powers of ten is laid. -/
structure Env (w : World) : Prop where
  handle : w.cell? ⟨0, 0, none⟩ = some (.iface 113 (.agg #[.pointer (some ⟨4, 30, none⟩)]))
  tab : Lib.TabIs Tryz.prog w "internal/strconv.uint64pow10" .u64 Lib.pow10Tab
  size : 4 ≤ w.heap.size

theorem Tryz.globPow : Tryz.prog.globalNamed "internal/strconv.uint64pow10" = some 1 := by kernel_rfl

theorem Env.below {B : Nat} {w w' : World} (h : Env w) (hb : Below B w w') (hB : 4 ≤ B) : Env w' where
  handle := (hb.cell (p := ⟨0, 0, none⟩) (by show 0 < B; omega)).trans h.handle
  tab := var?_below hb Tryz.globPow (by omega) h.tab
  size := Nat.le_trans h.size hb.size

/-- Below, out of a Below that begins later. -/
theorem below_later {w w1 w2 : World} (h1 : Below w.heap.size w w1) (h2 : Below w1.heap.size w1 w2) : Below w.heap.size w w2 := h1.trans (h2.mono h1.size)
theorem below_drewN {B : Nat} {a w : World} (h : Below B a w) (n : Nat) : Below B a (w.drewN n) := by
  induction n with
  | zero => exact h
  | succ n ih => rw [← World.drew_drewN]; exact ih.drew
theorem below_grow {B : Nat} {a w : World} (h : Below B a w) (hB : B ≤ w.heap.size) (os : Array Obj) : Below B a (Go.Sort.grow w os) :=
  h.trans ⟨rfl, rfl, rfl, by simp [Go.Sort.grow], fun k hk => by simp only [Go.Sort.grow]; rw [Array.getElem?_append_left (by omega)]⟩
/-! The same, for a world that the walk writes out: the steps of 'repeat (first | exact Below.refl _ _ | refine bl_drew ?_ | ..)'. -/
theorem bl_drew {a w : World} (h : Below a.heap.size a w) : Below a.heap.size a w.drew := h.drew
theorem bl_drewN {a w : World} (h : Below a.heap.size a w) (n : Nat) : Below a.heap.size a (w.drewN n) := below_drewN h n
theorem bl_alloc {a w : World} (h : Below a.heap.size a w) (o : Obj) : Below a.heap.size a (w.alloc o) := h.alloc h.size o
theorem bl_grow {a w : World} (h : Below a.heap.size a w) (os : Array Obj) : Below a.heap.size a (Go.Sort.grow w os) := below_grow h h.size os
theorem bl_trans {a w w' : World} (h : Below a.heap.size a w) (k : Below w.heap.size w w') : Below a.heap.size a w' := below_later h k
theorem bl_set {a w : World} (h : Below a.heap.size a w) {p : Addr} (hp : a.heap.size ≤ p.block) (u : Value) : Below a.heap.size a (w.setCell p u) := h.setCell hp u
end Go.Proofs.YtgdfgahpjebcaaaGreatDoor
/-
  What a Refusal's methods come to, and the law's own look at an error: refused and same.
-/
namespace Go.Proofs.YtgdfgahpjebcaaaGreatDoor
open Go.RowKit Go.Proofs.YtgdfgahpjebcaaaGreatDoorW.PrintWords Go.Proofs.YtgdfgahpjebcaaaGreatDoor.PT

/-- A Refusal lies in block g. -/
def IsRef (w : World) (g : Nat) (at_ why : Int) : Prop := w.heap[g]? = some (.cells #[.int .i64 at_, .int .i64 why] 81 (0, 0))
theorem IsRef.c0 {w : World} {g : Nat} {a y : Int} (h : IsRef w g a y) : w.cell? ⟨g, 0, none⟩ = some (.int .i64 a) := by
  unfold IsRef at h; simp [World.cell?, h]
theorem IsRef.c1 {w : World} {g : Nat} {a y : Int} (h : IsRef w g a y) : w.cell? ⟨g, 1, none⟩ = some (.int .i64 y) := by
  unfold IsRef at h; simp [World.cell?, h]
theorem IsRef.lt {w : World} {g : Nat} {a y : Int} (h : IsRef w g a y) : g < w.heap.size := by
  rcases Nat.lt_or_ge g w.heap.size with hlt | hge
  · exact hlt
  · unfold IsRef at h; rw [Array.getElem?_eq_none hge] at h; cases h
theorem IsRef.below {w w' : World} {g : Nat} {a y : Int} (h : IsRef w g a y) {B : Nat} (hb : Below B w w') (hg : g < B) : IsRef w' g a y := (hb.block g hg).trans h

/-- The small numbers' words. -/
theorem errno_word (y : Int) (h0 : 0 ≤ y) (h1 : y < 100) : ∃ r, api_Errno_Error.f 5 y = some r ∧ r.size ≤ 100 := by
  have H : (List.range 100).all (fun n => match api_Errno_Error.f 5 (n : Int) with | some r => decide (r.size ≤ 100) | none => false) = true := by decide +kernel
  obtain ⟨n, rfl⟩ := Int.eq_ofNat_of_zero_le h0
  have h2 := List.all_eq_true.1 H n (List.mem_range.2 (by omega))
  cases e : api_Errno_Error.f 5 (n : Int) with
  | none => rw [e] at h2; cases h2
  | some r => rw [e] at h2; exact ⟨r, rfl, of_decide_eq_true h2⟩

/-- What a region over a Refusal keeps. -/
abbrev RS (w : World) (g : Nat) (a y : Int) (w' : World) : Prop := w'.cell? ⟨g, 0, none⟩ = some (.int .i64 a) ∧ w'.cell? ⟨g, 1, none⟩ = some (.int .i64 y) ∧ Below w.heap.size w w'
theorem rs_start {w : World} {g : Nat} {a y : Int} (h : IsRef w g a y) : RS w g a y w.drew := ⟨h.c0, h.c1, (Below.refl _ _).drew⟩
theorem rs_of {w w2 : World} {g : Nat} {a y : Int} (h : IsRef w g a y) (hB : Below w.heap.size w w2) : RS w g a y w2 :=
  ⟨(hB.cell (p := ⟨g, 0, none⟩) h.lt).trans h.c0, (hB.cell (p := ⟨g, 1, none⟩) h.lt).trans h.c1, hB⟩
theorem rs_tab {w w1 : World} {g : Nat} {a y : Int} (he : Env w) (h1 : RS w g a y w1) : Lib.TabIs Tryz.prog w1 "internal/strconv.uint64pow10" .u64 Lib.pow10Tab := (he.below h1.2.2 he.size).tab

set_option maxHeartbeats 2000000 in
/-- (*Refusal).Error: some text, not empty. -/
theorem error_any (g : Nat) (at_ why : Int) (w : World) (h : IsRef w g at_ why) (he : Env w) (ha : -9223372036854775808 ≤ at_ ∧ at_ ≤ 9223372036854775807) (hy : 0 ≤ why ∧ why < 100) :
    Calls Tryz.prog 44 #[.pointer (some ⟨g, 0, none⟩)] w fun e w' => ∃ s : ByteArray, e = .returned (.string s) ∧ s.toList ≠ [] ∧ Below w.heap.size w w' := by
  obtain ⟨r, hr, hrl⟩ := errno_word why hy.1 hy.2
  have hil := Lib.itoa_length_le at_ ha.1 ha.2
  have HR := Lib.hid hr
  have q1 : ¬ 9223372036854775807 < 3 + (Lib.itoa at_).length := by omega
  have q2 : ¬ 9223372036854775807 < 3 + (Lib.itoa at_).length + 2 := by omega
  have q3 : ¬ 9223372036854775807 < 3 + (Lib.itoa at_).length + 2 + r.size := by omega
  clear hr
  go_enter Tryz.func44, Tryz.ntmps44
  go_wp2
  go_region_held3 (fun w' => w'.cell? ⟨g, 0, none⟩ = some (.int .i64 at_) ∧ w'.cell? ⟨g, 1, none⟩ = some (.int .i64 why) ∧ Below w.heap.size w w')
    ((refine rs_of h ?_; repeat (first | exact Below.refl _ _ | refine bl_drew ?_ | refine bl_drewN ?_ _ | refine bl_alloc ?_ _ | refine bl_grow ?_ _ | refine bl_trans ?_ (by assumption))))
    (first | (go_at_call 43; refine (where_any at_ _).mono ?_; rintro e w' ⟨rfl, rfl⟩)
           | (go_at_call 62; refine (Tryz.strconv_Itoa at_ ha.1 ha.2 _ (by refine rs_tab (g := g) (a := at_) (y := why) he ?_; assumption)).mono ?_; rintro e w' ⟨rfl, k, os, rfl⟩)
           | (go_at_call 63; refine (api_Errno_Error.calls 5 why r _ HR.out).mono ?_; rintro e w' ⟨rfl, hb⟩))
  all_goals (go_wp2; go_ret; exact ⟨_, rfl, by rw [ByteArray.toList_eq]; simp, by repeat (first | exact Below.refl _ _ | refine bl_drew ?_ | refine bl_drewN ?_ _ | refine bl_alloc ?_ _ | refine bl_grow ?_ _ | refine bl_trans ?_ (by assumption))⟩)

/-! ### refused: its one great region -/
/-- What holds in the midst of refused's region: the Refusal in block g, what is asked in block h, the variable r in block h + 1. -/
structure F5 (w : World) (g h : Nat) (a y : Int) (w' : World) : Prop where
  g0 : w'.cell? ⟨g, 0, none⟩ = some (.int .i64 a)
  g1 : w'.cell? ⟨g, 1, none⟩ = some (.int .i64 y)
  h0 : w'.cell? ⟨h, 0, none⟩ = some (.int .i64 a)
  h1 : w'.cell? ⟨h, 1, none⟩ = some (.int .i64 y)
  r0 : w'.cell? ⟨h + 1, 0, none⟩ = some (.pointer (some ⟨g, 0, none⟩))
  below : Below w.heap.size w w'
  ref : IsRef w' g a y
  size : h + 1 < w'.heap.size
theorem F5.next {w w1 w2 : World} {g h : Nat} {a y : Int} (f : F5 w g h a y w1) (hb : Below w1.heap.size w1 w2) : F5 w g h a y w2 where
  g0 := (hb.cell (p := ⟨g, 0, none⟩) f.ref.lt).trans f.g0
  g1 := (hb.cell (p := ⟨g, 1, none⟩) f.ref.lt).trans f.g1
  h0 := (hb.cell (p := ⟨h, 0, none⟩) (Nat.lt_of_succ_lt f.size)).trans f.h0
  h1 := (hb.cell (p := ⟨h, 1, none⟩) (Nat.lt_of_succ_lt f.size)).trans f.h1
  r0 := (hb.cell (p := ⟨h + 1, 0, none⟩) f.size).trans f.r0
  below := below_later f.below hb
  ref := f.ref.below hb f.ref.lt
  size := Nat.lt_of_lt_of_le f.size hb.size
theorem F5.drew {w w1 : World} {g h : Nat} {a y : Int} (f : F5 w g h a y w1) : F5 w g h a y w1.drew := f.next (Below.refl _ _).drew

/-- The world in which refused's region begins. -/
abbrev RW (at_ why : Int) (w : World) : World := ((w.alloc (.cells #[.int .i64 at_, .int .i64 why] 34)).alloc (.cells #[.pointer none] 55)).drew

theorem as_block (e t : Addr) (w : World) (k : Nat) (hk : k < w.heap.size) (hne : k ≠ t.block) : (asWorld e t w).heap[k]? = w.heap[k]? := by
  unfold asWorld
  rw [Below.heap_setCell _ _ _ _ hne]
  rw [Below.heap_alloc _ _ _ (by simp; omega), Below.heap_alloc _ _ _ (by simp; omega), Below.heap_alloc _ _ _ (by simp; omega), Below.heap_alloc _ _ _ hk]
theorem as_size (e t : Addr) (w : World) : (asWorld e t w).heap.size = w.heap.size + 4 := by
  unfold asWorld; simp [World.setCell]
theorem as_target (e : Addr) (b : Nat) (v : Value) (T : TypeId) (w : World) (hb : w.heap[b]? = some (.cells #[v] T (0, 0))) : (asWorld e ⟨b, 0, none⟩ w).heap[b]? = some (.cells #[.pointer (some e)] T (0, 0)) := by
  have hlt : b < w.heap.size := by
    rcases Nat.lt_or_ge b w.heap.size with h | h
    · exact h
    · rw [Array.getElem?_eq_none h] at hb; cases hb
  unfold asWorld
  simp only [World.setCell, Array.getElem?_modify]
  simp only [if_true]
  rw [Below.heap_alloc _ _ _ (by simp; omega), Below.heap_alloc _ _ _ (by simp; omega), Below.heap_alloc _ _ _ (by simp; omega), Below.heap_alloc _ _ _ hlt, hb]
  rfl

theorem as_below (e t : Addr) (w : World) {B : Nat} (hB : B ≤ t.block) (hB' : B ≤ w.heap.size) : Below B w (asWorld e t w) := by
  unfold asWorld
  exact ((((Below.refl B w).alloc (by simpa using hB') _ |>.alloc (by simp; omega) _).alloc (by simp; omega) _).alloc (by simp; omega) _).setCell hB _

theorem as_here (g : Nat) (at_ why : Int) (w : World) (h : IsRef w g at_ why) (he : Env w) :
    Calls Tryz.prog 42 #[.iface 55 (.pointer (some ⟨g, 0, none⟩)), .iface 85 (.pointer (some ⟨w.heap.size + 1, 0, none⟩))] (RW at_ why w) fun e w' => e = .returned (.bool true) ∧ F5 w g w.heap.size at_ why w' := by
  have hB : Below w.heap.size w (RW at_ why w) := bl_drew (bl_alloc (bl_alloc (Below.refl _ _) _) _)
  have he1 := he.below hB he.size
  have hs : (RW at_ why w).heap.size = w.heap.size + 2 := by simp [World.drew]
  have hr : (RW at_ why w).heap[w.heap.size + 1]? = some (.cells #[.pointer none] 55 (0, 0)) := by
    have := heap_alloc_new (w.alloc (.cells #[.int .i64 at_, .int .i64 why] 34)) (.cells #[.pointer none] 55)
    simpa [World.drew] using this
  have hh : (RW at_ why w).heap[w.heap.size]? = some (.cells #[.int .i64 at_, .int .i64 why] 34 (0, 0)) := by
    show ((w.alloc (.cells #[.int .i64 at_, .int .i64 why] 34)).alloc (.cells #[.pointer none] 55)).heap[w.heap.size]? = _
    rw [Below.heap_alloc _ _ _ (by simp)]; exact heap_alloc_new w _
  refine (as_hit ⟨g, 0, none⟩ ⟨w.heap.size + 1, 0, none⟩ (.pointer none) (RW at_ why w) he1.handle ((Lib.cell_of_heap hr 0).trans rfl) (Lib.frozen_of_heap hr 0)).mono ?_
  rintro e w' ⟨rfl, rfl⟩
  have hg := h.lt
  have hG : IsRef (asWorld ⟨g, 0, none⟩ ⟨w.heap.size + 1, 0, none⟩ (RW at_ why w)) g at_ why := by
    unfold IsRef
    rw [as_block _ _ _ _ (by rw [hs]; omega) (by show g ≠ w.heap.size + 1; omega)]
    exact h.below hB hg
  have hH : (asWorld ⟨g, 0, none⟩ ⟨w.heap.size + 1, 0, none⟩ (RW at_ why w)).heap[w.heap.size]? = some (.cells #[.int .i64 at_, .int .i64 why] 34 (0, 0)) := by
    rw [as_block _ _ _ _ (by rw [hs]; omega) (by show w.heap.size ≠ w.heap.size + 1; omega)]
    exact hh
  refine ⟨rfl, hG.c0, hG.c1, (Lib.cell_of_heap hH 0).trans rfl, (Lib.cell_of_heap hH 1).trans rfl, (Lib.cell_of_heap (as_target ⟨g, 0, none⟩ _ _ _ _ hr) 0).trans rfl, ?_, hG, by rw [as_size, hs]; omega⟩
  exact hB.trans (as_below _ _ _ (by show w.heap.size ≤ w.heap.size + 1; omega) (by rw [hs]; omega))

theorem where_k {w w1 : World} {g h : Nat} {a y : Int} (f : F5 w g h a y w1) :
    Calls Tryz.prog 43 #[.agg #[.int .i64 a]] w1 fun e w' => e = .returned (.int .i64 a) ∧ F5 w g h a y w' :=
  (where_any a w1).mono fun _ _ ⟨he, hw⟩ => ⟨he, hw ▸ f.next ((Below.refl _ _).alloc (Nat.le_refl _) _)⟩
theorem error_k {w w1 : World} {g h : Nat} {a y : Int} (f : F5 w g h a y w1) (he : Env w) (ha : -9223372036854775808 ≤ a ∧ a ≤ 9223372036854775807) (hy : 0 ≤ y ∧ y < 100) :
    Calls Tryz.prog 44 #[.pointer (some ⟨g, 0, none⟩)] w1 fun e w' => ∃ s : ByteArray, e = .returned (.string s) ∧ s.toList ≠ [] ∧ F5 w g h a y w' :=
  (error_any g a y w1 f.ref (he.below f.below he.size) ha hy).mono fun _ _ ⟨s, h1, h2, h3⟩ => ⟨s, h1, h2, f.next h3⟩
theorem is_k {w w1 : World} {g h : Nat} {a y : Int} (f : F5 w g h a y w1) :
    Calls Tryz.prog 45 #[.iface 55 (.pointer (some ⟨g, 0, none⟩)), .iface 23 (.int .i64 y)] w1 fun e w' => e = .returned (.bool true) ∧ F5 w g h a y w' :=
  (is_hit g y w1 f.g1).mono fun _ _ ⟨he, hw⟩ => ⟨he, hw ▸ f⟩
theorem F5.conj {w w1 : World} {g h : Nat} {a y : Int} (f : F5 w g h a y w1) :
    (w1.cell? ⟨g, 0, none⟩ = some (.int .i64 a) ∧ w1.cell? ⟨g, 1, none⟩ = some (.int .i64 y) ∧ w1.cell? ⟨h, 0, none⟩ = some (.int .i64 a) ∧ w1.cell? ⟨h, 1, none⟩ = some (.int .i64 y) ∧ w1.cell? ⟨h + 1, 0, none⟩ = some (.pointer (some ⟨g, 0, none⟩))) ∧ F5 w g h a y w1 :=
  ⟨⟨f.g0, f.g1, f.h0, f.h1, f.r0⟩, f⟩
end Go.Proofs.YtgdfgahpjebcaaaGreatDoor
/-
  refused, whole: its region of 45 operations that draws its order; the steps below were printed by wip/gen_refused.py.
-/
namespace Go.Proofs.YtgdfgahpjebcaaaGreatDoor
open Go.RowKit

set_option maxHeartbeats 8000000 in
set_option maxRecDepth 100000 in
/-- refused: an error that is a Refusal of that place and number. -/
theorem refused_hit (g : Nat) (at_ why : Int) (w : World) (h : IsRef w g at_ why) (he : Env w) (ha : -9223372036854775808 ≤ at_ ∧ at_ ≤ 9223372036854775807) (hy : 0 ≤ why ∧ why < 100) :
    Calls Tryz.prog 24 #[.iface 55 (.pointer (some ⟨g, 0, none⟩)), .agg #[.int .i64 at_, .int .i64 why]] w fun e w' => e = .returned (.bool true) ∧ Below w.heap.size w w' := by
  go_enter Tryz.func24, Tryz.ntmps24
  go_wp2
  refine wp_region_any (by kernel_rfl) ?_
  change wpAny _ _ _ _ _ _ _ (World.drew _)
  refine wpAny_take (i := 0) (v := ?_) rfl (by kernel_rfl) (by kernel_rfl) (by kernel_rfl) (fun _ _ _ h => h) (Or.inl ⟨by rfl, fun w2 => ?hy0⟩) ?_
  case hy0 => (go_simp; try with_reducible rfl)
  try simp only [List.getElem_toArray, List.getElem_cons_succ, List.getElem_cons_zero, Act.put, List.setIfInBounds_toArray, List.set_cons_zero, List.set_cons_succ]
  refine wpAny_take (i := 1) (v := ?_) rfl (by kernel_rfl) (by kernel_rfl) (by kernel_rfl) (fun _ _ _ h => h) (Or.inl ⟨by rfl, fun w2 => ?hy1⟩) ?_
  case hy1 => (go_simp; try with_reducible rfl)
  try simp only [List.getElem_toArray, List.getElem_cons_succ, List.getElem_cons_zero, Act.put, List.setIfInBounds_toArray, List.set_cons_zero, List.set_cons_succ]
  refine wpAny_take (i := 2) (v := ?_) rfl (by kernel_rfl) (by kernel_rfl) (by kernel_rfl) (fun _ _ _ h => h) (Or.inl ⟨by rfl, fun w2 => ?hy2⟩) ?_
  case hy2 => (go_simp; try with_reducible rfl)
  try simp only [List.getElem_toArray, List.getElem_cons_succ, List.getElem_cons_zero, Act.put, List.setIfInBounds_toArray, List.set_cons_zero, List.set_cons_succ]
  refine wpAny_take (i := 3) (v := ?_) rfl (by kernel_rfl) (by kernel_rfl) (by kernel_rfl) (fun _ _ _ h => h) (Or.inl ⟨by rfl, fun w2 => ?hy3⟩) ?_
  case hy3 => (go_simp; try with_reducible rfl)
  try simp only [List.getElem_toArray, List.getElem_cons_succ, List.getElem_cons_zero, Act.put, List.setIfInBounds_toArray, List.set_cons_zero, List.set_cons_succ]
  refine wpAny_take (i := 4) (v := ?_) rfl (by kernel_rfl) (by kernel_rfl) (by kernel_rfl) (fun _ _ _ h => h) (Or.inl ⟨by rfl, fun w2 => ?hy4⟩) ?_
  case hy4 => (go_simp; try with_reducible rfl)
  try simp only [List.getElem_toArray, List.getElem_cons_succ, List.getElem_cons_zero, Act.put, List.setIfInBounds_toArray, List.set_cons_zero, List.set_cons_succ]
  refine wpAny_ready (rs := [5]) (by kernel_rfl) (by simp) ?_
  refine AllReady.cons rfl (fun K hK => ?_) AllReady.nil
  go_simp
  refine (as_here g at_ why w h he).mono ?_
  rintro e w1 ⟨rfl, f⟩
  refine hK _ _ ?_
  clear hK K
  refine wpAny_of_held (S := fun w' => (w'.cell? ⟨g, 0, none⟩ = some (.int .i64 at_) ∧ w'.cell? ⟨g, 1, none⟩ = some (.int .i64 why) ∧ w'.cell? ⟨w.heap.size, 0, none⟩ = some (.int .i64 at_) ∧ w'.cell? ⟨w.heap.size, 1, none⟩ = some (.int .i64 why) ∧ w'.cell? ⟨w.heap.size + 1, 0, none⟩ = some (.pointer (some ⟨g, 0, none⟩))) ∧ F5 w g w.heap.size at_ why w') _ _ _ _ ?_
  have hHeld := f.conj
  clear f
  refine wpAnyH_take (i := 6) (v := ?_) rfl (by kernel_rfl) (by kernel_rfl) (by kernel_rfl) (fun _ _ _ h => h) (Or.inl ⟨by rfl, fun w2 hS => ?hy6⟩) hHeld ?_
  case hy6 => (obtain ⟨⟨q0, q1, q2, q3, q4⟩, q5⟩ := hS; clear q5; go_simp; try with_reducible rfl)
  try simp only [List.getElem_toArray, List.getElem_cons_succ, List.getElem_cons_zero, Act.put, List.setIfInBounds_toArray, List.set_cons_zero, List.set_cons_succ]
  refine wpAnyH_take (i := 7) (v := ?_) rfl (by kernel_rfl) (by kernel_rfl) (by kernel_rfl) (fun _ _ _ h => h) (Or.inl ⟨by rfl, fun w2 hS => ?hy7⟩) hHeld ?_
  case hy7 => (obtain ⟨⟨q0, q1, q2, q3, q4⟩, q5⟩ := hS; clear q5; go_simp; try with_reducible rfl)
  try simp only [List.getElem_toArray, List.getElem_cons_succ, List.getElem_cons_zero, Act.put, List.setIfInBounds_toArray, List.set_cons_zero, List.set_cons_succ]
  refine wpAnyH_take (i := 8) (v := ?_) rfl (by kernel_rfl) (by kernel_rfl) (by kernel_rfl) (fun _ _ _ h => h) (Or.inl ⟨by rfl, fun w2 hS => ?hy8⟩) hHeld ?_
  case hy8 => (obtain ⟨⟨q0, q1, q2, q3, q4⟩, q5⟩ := hS; clear q5; go_simp; try with_reducible rfl)
  try simp only [List.getElem_toArray, List.getElem_cons_succ, List.getElem_cons_zero, Act.put, List.setIfInBounds_toArray, List.set_cons_zero, List.set_cons_succ]
  refine wpAnyH_take (i := 9) (v := ?_) rfl (by kernel_rfl) (by kernel_rfl) (by kernel_rfl) (fun _ _ _ h => h) (Or.inl ⟨by rfl, fun w2 hS => ?hy9⟩) hHeld ?_
  case hy9 => (obtain ⟨⟨q0, q1, q2, q3, q4⟩, q5⟩ := hS; clear q5; go_simp; try with_reducible rfl)
  try simp only [List.getElem_toArray, List.getElem_cons_succ, List.getElem_cons_zero, Act.put, List.setIfInBounds_toArray, List.set_cons_zero, List.set_cons_succ]
  refine wpAnyH_take (i := 10) (v := ?_) rfl (by kernel_rfl) (by kernel_rfl) (by kernel_rfl) (fun _ _ _ h => h) (Or.inl ⟨by rfl, fun w2 hS => ?hy10⟩) hHeld ?_
  case hy10 => (obtain ⟨⟨q0, q1, q2, q3, q4⟩, q5⟩ := hS; clear q5; go_simp; try with_reducible rfl)
  try simp only [List.getElem_toArray, List.getElem_cons_succ, List.getElem_cons_zero, Act.put, List.setIfInBounds_toArray, List.set_cons_zero, List.set_cons_succ]
  refine wpAnyH_take (i := 11) (v := ?_) rfl (by kernel_rfl) (by kernel_rfl) (by kernel_rfl) (fun _ _ _ h => h) (Or.inl ⟨by rfl, fun w2 hS => ?hy11⟩) hHeld ?_
  case hy11 => (obtain ⟨⟨q0, q1, q2, q3, q4⟩, q5⟩ := hS; clear q5; go_simp; try with_reducible rfl)
  try simp only [List.getElem_toArray, List.getElem_cons_succ, List.getElem_cons_zero, Act.put, List.setIfInBounds_toArray, List.set_cons_zero, List.set_cons_succ]
  refine wpAnyH_take (i := 12) (v := ?_) rfl (by kernel_rfl) (by kernel_rfl) (by kernel_rfl) (fun _ _ _ h => h) (Or.inl ⟨by rfl, fun w2 hS => ?hy12⟩) hHeld ?_
  case hy12 => (obtain ⟨⟨q0, q1, q2, q3, q4⟩, q5⟩ := hS; clear q5; go_simp; try with_reducible rfl)
  try simp only [List.getElem_toArray, List.getElem_cons_succ, List.getElem_cons_zero, Act.put, List.setIfInBounds_toArray, List.set_cons_zero, List.set_cons_succ]
  refine wpAnyH_take (i := 13) (v := ?_) rfl (by kernel_rfl) (by kernel_rfl) (by kernel_rfl) (fun _ _ _ h => h) (Or.inl ⟨by rfl, fun w2 hS => ?hy13⟩) hHeld ?_
  case hy13 => (obtain ⟨⟨q0, q1, q2, q3, q4⟩, q5⟩ := hS; clear q5; go_simp; try with_reducible rfl)
  try simp only [List.getElem_toArray, List.getElem_cons_succ, List.getElem_cons_zero, Act.put, List.setIfInBounds_toArray, List.set_cons_zero, List.set_cons_succ]
  refine wpAnyH_take (i := 14) (v := ?_) rfl (by kernel_rfl) (by kernel_rfl) (by kernel_rfl) (fun _ _ _ h => h) (Or.inl ⟨by rfl, fun w2 hS => ?hy14⟩) hHeld ?_
  case hy14 => (obtain ⟨⟨q0, q1, q2, q3, q4⟩, q5⟩ := hS; clear q5; go_simp; try with_reducible rfl)
  try simp only [List.getElem_toArray, List.getElem_cons_succ, List.getElem_cons_zero, Act.put, List.setIfInBounds_toArray, List.set_cons_zero, List.set_cons_succ]
  refine wpAnyH_take (i := 15) (v := ?_) rfl (by kernel_rfl) (by kernel_rfl) (by kernel_rfl) (fun _ _ _ h => h) (Or.inl ⟨by rfl, fun w2 hS => ?hy15⟩) hHeld ?_
  case hy15 => (obtain ⟨⟨q0, q1, q2, q3, q4⟩, q5⟩ := hS; clear q5; go_simp; try with_reducible rfl)
  try simp only [List.getElem_toArray, List.getElem_cons_succ, List.getElem_cons_zero, Act.put, List.setIfInBounds_toArray, List.set_cons_zero, List.set_cons_succ]
  refine wpAnyH_take (i := 17) (v := ?_) rfl (by kernel_rfl) (by kernel_rfl) (by kernel_rfl) (fun _ _ _ h => h) (Or.inl ⟨by rfl, fun w2 hS => ?hy17⟩) hHeld ?_
  case hy17 => (obtain ⟨⟨q0, q1, q2, q3, q4⟩, q5⟩ := hS; clear q5; go_simp; try with_reducible rfl)
  try simp only [List.getElem_toArray, List.getElem_cons_succ, List.getElem_cons_zero, Act.put, List.setIfInBounds_toArray, List.set_cons_zero, List.set_cons_succ]
  refine wpAnyH_take (i := 18) (v := ?_) rfl (by kernel_rfl) (by kernel_rfl) (by kernel_rfl) (fun _ _ _ h => h) (Or.inl ⟨by rfl, fun w2 hS => ?hy18⟩) hHeld ?_
  case hy18 => (obtain ⟨⟨q0, q1, q2, q3, q4⟩, q5⟩ := hS; clear q5; go_simp; try with_reducible rfl)
  try simp only [List.getElem_toArray, List.getElem_cons_succ, List.getElem_cons_zero, Act.put, List.setIfInBounds_toArray, List.set_cons_zero, List.set_cons_succ]
  refine wpAnyH_ready (rs := [16]) (by kernel_rfl) (by simp) ?_
  refine AllReadyH.cons rfl (fun K hK => ?_) AllReadyH.nil
  go_simp
  refine (where_k hHeld.2).mono ?_
  rintro e w3 ⟨rfl, f⟩
  refine hK.out _ _ f.conj (fun _ => ?_)
  clear hK K hHeld
  have hHeld := f.conj
  clear f
  try simp only [List.getElem_toArray, List.getElem_cons_succ, List.getElem_cons_zero, Act.put, List.setIfInBounds_toArray, List.set_cons_zero, List.set_cons_succ]
  refine wpAnyH_take (i := 19) (v := ?_) rfl (by kernel_rfl) (by kernel_rfl) (by kernel_rfl) (fun _ _ _ h => h) (Or.inl ⟨by rfl, fun w2 hS => ?hy19⟩) hHeld ?_
  case hy19 => (obtain ⟨⟨q0, q1, q2, q3, q4⟩, q5⟩ := hS; clear q5; go_simp; try with_reducible rfl)
  try simp only [List.getElem_toArray, List.getElem_cons_succ, List.getElem_cons_zero, Act.put, List.setIfInBounds_toArray, List.set_cons_zero, List.set_cons_succ]
  refine wpAnyH_take (i := 20) (v := ?_) rfl (by kernel_rfl) (by kernel_rfl) (by kernel_rfl) (fun _ _ _ h => h) (Or.inl ⟨by rfl, fun w2 hS => ?hy20⟩) hHeld ?_
  case hy20 => (obtain ⟨⟨q0, q1, q2, q3, q4⟩, q5⟩ := hS; clear q5; go_simp; try with_reducible rfl)
  try simp only [List.getElem_toArray, List.getElem_cons_succ, List.getElem_cons_zero, Act.put, List.setIfInBounds_toArray, List.set_cons_zero, List.set_cons_succ]
  refine wpAnyH_take (i := 21) (v := ?_) rfl (by kernel_rfl) (by kernel_rfl) (by kernel_rfl) (fun _ _ _ h => h) (Or.inl ⟨by rfl, fun w2 hS => ?hy21⟩) hHeld ?_
  case hy21 => (obtain ⟨⟨q0, q1, q2, q3, q4⟩, q5⟩ := hS; clear q5; go_simp; try with_reducible rfl)
  try simp only [List.getElem_toArray, List.getElem_cons_succ, List.getElem_cons_zero, Act.put, List.setIfInBounds_toArray, List.set_cons_zero, List.set_cons_succ]
  refine wpAnyH_take (i := 22) (v := ?_) rfl (by kernel_rfl) (by kernel_rfl) (by kernel_rfl) (fun _ _ _ h => h) (Or.inl ⟨by rfl, fun w2 hS => ?hy22⟩) hHeld ?_
  case hy22 => (obtain ⟨⟨q0, q1, q2, q3, q4⟩, q5⟩ := hS; clear q5; go_simp; try with_reducible rfl)
  try simp only [List.getElem_toArray, List.getElem_cons_succ, List.getElem_cons_zero, Act.put, List.setIfInBounds_toArray, List.set_cons_zero, List.set_cons_succ]
  refine wpAnyH_take (i := 23) (v := ?_) rfl (by kernel_rfl) (by kernel_rfl) (by kernel_rfl) (fun _ _ _ h => h) (Or.inl ⟨by rfl, fun w2 hS => ?hy23⟩) hHeld ?_
  case hy23 => (obtain ⟨⟨q0, q1, q2, q3, q4⟩, q5⟩ := hS; clear q5; go_simp; try with_reducible rfl)
  try simp only [List.getElem_toArray, List.getElem_cons_succ, List.getElem_cons_zero, Act.put, List.setIfInBounds_toArray, List.set_cons_zero, List.set_cons_succ]
  refine wpAnyH_take (i := 24) (v := ?_) rfl (by kernel_rfl) (by kernel_rfl) (by kernel_rfl) (fun _ _ _ h => h) (Or.inl ⟨by rfl, fun w2 hS => ?hy24⟩) hHeld ?_
  case hy24 => (obtain ⟨⟨q0, q1, q2, q3, q4⟩, q5⟩ := hS; clear q5; go_simp; try with_reducible rfl)
  try simp only [List.getElem_toArray, List.getElem_cons_succ, List.getElem_cons_zero, Act.put, List.setIfInBounds_toArray, List.set_cons_zero, List.set_cons_succ]
  refine wpAnyH_take (i := 25) (v := ?_) rfl (by kernel_rfl) (by kernel_rfl) (by kernel_rfl) (fun _ _ _ h => h) (Or.inl ⟨by rfl, fun w2 hS => ?hy25⟩) hHeld ?_
  case hy25 => (obtain ⟨⟨q0, q1, q2, q3, q4⟩, q5⟩ := hS; clear q5; go_simp; try with_reducible rfl)
  try simp only [List.getElem_toArray, List.getElem_cons_succ, List.getElem_cons_zero, Act.put, List.setIfInBounds_toArray, List.set_cons_zero, List.set_cons_succ]
  refine wpAnyH_take (i := 26) (v := ?_) rfl (by kernel_rfl) (by kernel_rfl) (by kernel_rfl) (fun _ _ _ h => h) (Or.inl ⟨by rfl, fun w2 hS => ?hy26⟩) hHeld ?_
  case hy26 => (obtain ⟨⟨q0, q1, q2, q3, q4⟩, q5⟩ := hS; clear q5; go_simp; try with_reducible rfl)
  try simp only [List.getElem_toArray, List.getElem_cons_succ, List.getElem_cons_zero, Act.put, List.setIfInBounds_toArray, List.set_cons_zero, List.set_cons_succ]
  refine wpAnyH_take (i := 27) (v := ?_) rfl (by kernel_rfl) (by kernel_rfl) (by kernel_rfl) (fun _ _ _ h => h) (Or.inl ⟨by rfl, fun w2 hS => ?hy27⟩) hHeld ?_
  case hy27 => (obtain ⟨⟨q0, q1, q2, q3, q4⟩, q5⟩ := hS; clear q5; go_simp; try with_reducible rfl)
  try simp only [List.getElem_toArray, List.getElem_cons_succ, List.getElem_cons_zero, Act.put, List.setIfInBounds_toArray, List.set_cons_zero, List.set_cons_succ]
  refine wpAnyH_take (i := 28) (v := ?_) rfl (by kernel_rfl) (by kernel_rfl) (by kernel_rfl) (fun _ _ _ h => h) (Or.inl ⟨by rfl, fun w2 hS => ?hy28⟩) hHeld ?_
  case hy28 => (obtain ⟨⟨q0, q1, q2, q3, q4⟩, q5⟩ := hS; clear q5; go_simp; try with_reducible rfl)
  try simp only [List.getElem_toArray, List.getElem_cons_succ, List.getElem_cons_zero, Act.put, List.setIfInBounds_toArray, List.set_cons_zero, List.set_cons_succ]
  refine wpAnyH_take (i := 29) (v := ?_) rfl (by kernel_rfl) (by kernel_rfl) (by kernel_rfl) (fun _ _ _ h => h) (Or.inl ⟨by rfl, fun w2 hS => ?hy29⟩) hHeld ?_
  case hy29 => (obtain ⟨⟨q0, q1, q2, q3, q4⟩, q5⟩ := hS; clear q5; go_simp; try with_reducible rfl)
  try simp only [List.getElem_toArray, List.getElem_cons_succ, List.getElem_cons_zero, Act.put, List.setIfInBounds_toArray, List.set_cons_zero, List.set_cons_succ]
  refine wpAnyH_take (i := 30) (v := ?_) rfl (by kernel_rfl) (by kernel_rfl) (by kernel_rfl) (fun _ _ _ h => h) (Or.inl ⟨by rfl, fun w2 hS => ?hy30⟩) hHeld ?_
  case hy30 => (obtain ⟨⟨q0, q1, q2, q3, q4⟩, q5⟩ := hS; clear q5; go_simp; try with_reducible rfl)
  try simp only [List.getElem_toArray, List.getElem_cons_succ, List.getElem_cons_zero, Act.put, List.setIfInBounds_toArray, List.set_cons_zero, List.set_cons_succ]
  refine wpAnyH_take (i := 31) (v := ?_) rfl (by kernel_rfl) (by kernel_rfl) (by kernel_rfl) (fun _ _ _ h => h) (Or.inl ⟨by rfl, fun w2 hS => ?hy31⟩) hHeld ?_
  case hy31 => (obtain ⟨⟨q0, q1, q2, q3, q4⟩, q5⟩ := hS; clear q5; go_simp; try with_reducible rfl)
  try simp only [List.getElem_toArray, List.getElem_cons_succ, List.getElem_cons_zero, Act.put, List.setIfInBounds_toArray, List.set_cons_zero, List.set_cons_succ]
  refine wpAnyH_ready (rs := [32]) (by kernel_rfl) (by simp) ?_
  refine AllReadyH.cons rfl (fun K hK => ?_) AllReadyH.nil
  go_simp
  refine (error_k hHeld.2 he ha hy).mono ?_
  rintro e w4 ⟨s, rfl, hs, f⟩
  have hs1 : (s.toList == []) = false := (beq_eq_false_iff_ne.mpr hs)
  have hs2 : (s.toList != []) = true := (bne_iff_ne.mpr hs)
  clear hs
  refine hK.out _ _ f.conj (fun _ => ?_)
  clear hK K hHeld
  have hHeld := f.conj
  clear f
  try simp only [List.getElem_toArray, List.getElem_cons_succ, List.getElem_cons_zero, Act.put, List.setIfInBounds_toArray, List.set_cons_zero, List.set_cons_succ]
  refine wpAnyH_take (i := 33) (v := ?_) rfl (by kernel_rfl) (by kernel_rfl) (by kernel_rfl) (fun _ _ _ h => h) (Or.inl ⟨by rfl, fun w2 hS => ?hy33⟩) hHeld ?_
  case hy33 => (obtain ⟨⟨q0, q1, q2, q3, q4⟩, q5⟩ := hS; clear q5; go_simp; try with_reducible rfl)
  try simp only [List.getElem_toArray, List.getElem_cons_succ, List.getElem_cons_zero, Act.put, List.setIfInBounds_toArray, List.set_cons_zero, List.set_cons_succ]
  refine wpAnyH_take (i := 34) (v := ?_) rfl (by kernel_rfl) (by kernel_rfl) (by kernel_rfl) (fun _ _ _ h => h) (Or.inl ⟨by rfl, fun w2 hS => ?hy34⟩) hHeld ?_
  case hy34 => (obtain ⟨⟨q0, q1, q2, q3, q4⟩, q5⟩ := hS; clear q5; go_simp; try with_reducible rfl)
  try simp only [List.getElem_toArray, List.getElem_cons_succ, List.getElem_cons_zero, Act.put, List.setIfInBounds_toArray, List.set_cons_zero, List.set_cons_succ]
  refine wpAnyH_take (i := 35) (v := ?_) rfl (by kernel_rfl) (by kernel_rfl) (by kernel_rfl) (fun _ _ _ h => h) (Or.inl ⟨by rfl, fun w2 hS => ?hy35⟩) hHeld ?_
  case hy35 => (obtain ⟨⟨q0, q1, q2, q3, q4⟩, q5⟩ := hS; clear q5; go_simp; try with_reducible rfl)
  try simp only [List.getElem_toArray, List.getElem_cons_succ, List.getElem_cons_zero, Act.put, List.setIfInBounds_toArray, List.set_cons_zero, List.set_cons_succ]
  refine wpAnyH_take (i := 36) (v := ?_) rfl (by kernel_rfl) (by kernel_rfl) (by kernel_rfl) (fun _ _ _ h => h) (Or.inl ⟨by rfl, fun w2 hS => ?hy36⟩) hHeld ?_
  case hy36 => (obtain ⟨⟨q0, q1, q2, q3, q4⟩, q5⟩ := hS; clear q5; go_simp; try with_reducible rfl)
  try simp only [List.getElem_toArray, List.getElem_cons_succ, List.getElem_cons_zero, Act.put, List.setIfInBounds_toArray, List.set_cons_zero, List.set_cons_succ]
  refine wpAnyH_take (i := 37) (v := ?_) rfl (by kernel_rfl) (by kernel_rfl) (by kernel_rfl) (fun _ _ _ h => h) (Or.inl ⟨by rfl, fun w2 hS => ?hy37⟩) hHeld ?_
  case hy37 => (obtain ⟨⟨q0, q1, q2, q3, q4⟩, q5⟩ := hS; clear q5; go_simp; try with_reducible rfl)
  try simp only [List.getElem_toArray, List.getElem_cons_succ, List.getElem_cons_zero, Act.put, List.setIfInBounds_toArray, List.set_cons_zero, List.set_cons_succ]
  refine wpAnyH_take (i := 38) (v := ?_) rfl (by kernel_rfl) (by kernel_rfl) (by kernel_rfl) (fun _ _ _ h => h) (Or.inl ⟨by rfl, fun w2 hS => ?hy38⟩) hHeld ?_
  case hy38 => (obtain ⟨⟨q0, q1, q2, q3, q4⟩, q5⟩ := hS; clear q5; go_simp; try with_reducible rfl)
  try simp only [List.getElem_toArray, List.getElem_cons_succ, List.getElem_cons_zero, Act.put, List.setIfInBounds_toArray, List.set_cons_zero, List.set_cons_succ]
  refine wpAnyH_take (i := 39) (v := ?_) rfl (by kernel_rfl) (by kernel_rfl) (by kernel_rfl) (fun _ _ _ h => h) (Or.inl ⟨by rfl, fun w2 hS => ?hy39⟩) hHeld ?_
  case hy39 => (obtain ⟨⟨q0, q1, q2, q3, q4⟩, q5⟩ := hS; clear q5; go_simp; try with_reducible rfl)
  try simp only [List.getElem_toArray, List.getElem_cons_succ, List.getElem_cons_zero, Act.put, List.setIfInBounds_toArray, List.set_cons_zero, List.set_cons_succ]
  refine wpAnyH_take (i := 40) (v := ?_) rfl (by kernel_rfl) (by kernel_rfl) (by kernel_rfl) (fun _ _ _ h => h) (Or.inl ⟨by rfl, fun w2 hS => ?hy40⟩) hHeld ?_
  case hy40 => (obtain ⟨⟨q0, q1, q2, q3, q4⟩, q5⟩ := hS; clear q5; go_simp; try with_reducible rfl)
  try simp only [List.getElem_toArray, List.getElem_cons_succ, List.getElem_cons_zero, Act.put, List.setIfInBounds_toArray, List.set_cons_zero, List.set_cons_succ]
  refine wpAnyH_take (i := 41) (v := ?_) rfl (by kernel_rfl) (by kernel_rfl) (by kernel_rfl) (fun _ _ _ h => h) (Or.inl ⟨by rfl, fun w2 hS => ?hy41⟩) hHeld ?_
  case hy41 => (obtain ⟨⟨q0, q1, q2, q3, q4⟩, q5⟩ := hS; clear q5; go_simp; try with_reducible rfl)
  try simp only [List.getElem_toArray, List.getElem_cons_succ, List.getElem_cons_zero, Act.put, List.setIfInBounds_toArray, List.set_cons_zero, List.set_cons_succ]
  refine wpAnyH_ready (rs := [42]) (by kernel_rfl) (by simp) ?_
  refine AllReadyH.cons rfl (fun K hK => ?_) AllReadyH.nil
  go_simp
  refine (is_k hHeld.2).mono ?_
  rintro e w5 ⟨rfl, f⟩
  refine hK.out _ _ f.conj (fun _ => ?_)
  clear hK K hHeld
  have hHeld := f.conj
  clear f
  try simp only [List.getElem_toArray, List.getElem_cons_succ, List.getElem_cons_zero, Act.put, List.setIfInBounds_toArray, List.set_cons_zero, List.set_cons_succ]
  refine wpAnyH_take (i := 43) (v := ?_) rfl (by kernel_rfl) (by kernel_rfl) (by kernel_rfl) (fun _ _ _ h => h) (Or.inl ⟨by rfl, fun w2 hS => ?hy43⟩) hHeld ?_
  case hy43 => (obtain ⟨⟨q0, q1, q2, q3, q4⟩, q5⟩ := hS; clear q5; go_simp; try with_reducible rfl)
  try simp only [List.getElem_toArray, List.getElem_cons_succ, List.getElem_cons_zero, Act.put, List.setIfInBounds_toArray, List.set_cons_zero, List.set_cons_succ]
  refine wpAnyH_take (i := 44) (v := ?_) rfl (by kernel_rfl) (by kernel_rfl) (by kernel_rfl) (fun _ _ _ h => h) (Or.inl ⟨by rfl, fun w2 hS => ?hy44⟩) hHeld ?_
  case hy44 => (obtain ⟨⟨q0, q1, q2, q3, q4⟩, q5⟩ := hS; clear q5; go_simp; try with_reducible rfl)
  try simp only [List.getElem_toArray, List.getElem_cons_succ, List.getElem_cons_zero, Act.put, List.setIfInBounds_toArray, List.set_cons_zero, List.set_cons_succ]
  refine wpAnyH_done (by kernel_rfl) ?_ _
  go_wp2
  go_ret
  exact ⟨rfl, hHeld.2.below⟩
end Go.Proofs.YtgdfgahpjebcaaaGreatDoor
/-
  Bits of ints as sums: plain lemmas, no program.
-/
namespace Go.Proofs.YtgdfgahpjebcaaaGreatDoor.Bit

theorem wraps (n : Int) (h0 : 0 ≤ n) (h1 : n < 2 ^ 62) : IntKind.i64.wrap n = n := by rw [IntKind.wrap_i64]; omega
section
variable {x y : Int}
theorem and63 (h0 : 0 ≤ x) (h1 : x < 4611686018427387904) : bits .and .i64 x 63 = x % 64 := bits_mask .i64 62 (by decide) wraps 6 (by decide) x h0 h1
theorem and15 (h0 : 0 ≤ x) (h1 : x < 4611686018427387904) : bits .and .i64 x 15 = x % 16 := bits_mask .i64 62 (by decide) wraps 4 (by decide) x h0 h1
theorem or128 (h0 : 0 ≤ y) (h1 : y < 64) : bits .or .i64 128 y = 128 + y := bits_join .i64 62 (by decide) wraps 6 128 y (by decide) (by decide) (by decide) h0 h1 (by omega)
theorem or192 (h0 : 0 ≤ y) (h1 : y < 64) : bits .or .i64 192 y = 192 + y := bits_join .i64 62 (by decide) wraps 6 192 y (by decide) (by decide) (by decide) h0 h1 (by omega)
theorem or224 (h0 : 0 ≤ y) (h1 : y < 32) : bits .or .i64 224 y = 224 + y := bits_join .i64 62 (by decide) wraps 5 224 y (by decide) (by decide) (by decide) h0 h1 (by omega)
theorem or240 (h0 : 0 ≤ y) (h1 : y < 16) : bits .or .i64 240 y = 240 + y := bits_join .i64 62 (by decide) wraps 4 240 y (by decide) (by decide) (by decide) h0 h1 (by omega)
theorem or6 (hx0 : 0 ≤ x) (hx : x % 64 = 0) (hx1 : x < 4611686018427387904) (h0 : 0 ≤ y) (h1 : y < 64) : bits .or .i64 x y = x + y := bits_join .i64 62 (by decide) wraps 6 x y hx0 hx hx1 h0 h1 (by omega)
theorem or4 (hx0 : 0 ≤ x) (hx : x % 16 = 0) (hx1 : x < 4611686018427387904) (h0 : 0 ≤ y) (h1 : y < 16) : bits .or .i64 x y = x + y := bits_join .i64 62 (by decide) wraps 4 x y hx0 hx hx1 h0 h1 (by omega)
end
end Go.Proofs.YtgdfgahpjebcaaaGreatDoor.Bit
/-
  Characters as numbers: plain definitions and lemmas; no program.
-/
namespace Go.Proofs.YtgdfgahpjebcaaaGreatDoor

/-- Is a number a character? -/
def charB (r : Int) : Bool := decide (0 ≤ r) && (decide (r ≤ 1114111) && (decide (r < 55296) || decide (57343 < r)))
theorem charB_spec (r : Int) : charB r = true ↔ 0 ≤ r ∧ r ≤ 1114111 ∧ (r < 55296 ∨ 57343 < r) := by simp [charB]

/-- A character's bytes, as numbers. -/
def encI (r : Int) : List Int :=
  if r < 128 then [r] else if r < 2048 then [192 + r / 64, 128 + r % 64] else if r < 65536 then [224 + r / 4096, 128 + r / 64 % 64, 128 + r % 64] else [240 + r / 262144, 128 + r / 4096 % 64, 128 + r / 64 % 64, 128 + r % 64]
theorem encI_length (r : Int) : 1 ≤ (encI r).length ∧ (encI r).length ≤ 4 := by
  unfold encI
  split
  · simp
  · split
    · simp
    · split <;> simp
/-- Characters' bytes, as numbers. -/
def encs (l : List Int) : List Int := l.flatMap encI
theorem encs_nil : encs [] = [] := rfl
theorem encs_cons (r : Int) (l : List Int) : encs (r :: l) = encI r ++ encs l := rfl
theorem encs_app (l m : List Int) : encs (l ++ m) = encs l ++ encs m := by simp [encs]
theorem encs_len (l : List Int) : l.length ≤ (encs l).length ∧ (encs l).length ≤ 4 * l.length := by
  induction l with
  | nil => simp [encs_nil]
  | cons r l ih => have := encI_length r; rw [encs_cons, List.length_append, List.length_cons]; omega

/-- What text.Bytes comes to. -/
def bytesS (l : List Int) : ByteArray × Int := if l.all charB then (strOfNums (encs l), 0) else (⟨#[]⟩, 5)
end Go.Proofs.YtgdfgahpjebcaaaGreatDoor
/-
  text.put: a character's bytes, appended to a row of the caller's own.
-/
namespace Go.Proofs.YtgdfgahpjebcaaaGreatDoor
open Go.RowKit Go.Proofs.YtgdfgahpjebcaaaGreatDoorW.PrintWords

section
variable {P : Program} {ops : Array Oper} {rest : List Oper} {o : Oper} {a : Act} {Q : Exit → Act → World → Prop}
/-- append of one number, the world's size said apart. -/
theorem app_num {w0 W : World} (base : Nat) (hgd : o.guard = none) (s x : Operand) (t e : TypeId) (k : IntKind) (bytes H : Nat) (hH : W.heap.size = H)
    (ho : o.op = .call { callee := .builtin .append, args := #[s, x], argTypes := #[t, t] })
    (ht : P.underlying t = some (.slice e)) (hinfo : (P.info? e).map (fun i => (i.zero, i.size, i.bytes)) = some (some (.int k 0), 1, bytes)) (hb0 : 0 < bytes)
    (v : Value) (xs : List Int) (y : Int) (hs : a.eval s = v) (hx : a.eval x = .slice (some ⟨H, 0, none⟩) 1 1)
    (HO : W.ownsRow base e 1 v xs.length (nums k xs)) (HB : Below base w0 W) (hbase : base ≤ W.heap.size) (hl : (xs.length + 1) * bytes ≤ 140737488355328)
    (h : ∀ v1 w1, w1.ownsRow base e 1 v1 (xs ++ [y]).length (nums k (xs ++ [y])) → Below base w0 w1 → W.grownBy w1 v.ownBlock → (v1.ownBlock = v.ownBlock ∨ ∃ b, v1.ownBlock = some b ∧ W.heap.size ≤ b) → wpList P ops Q rest (a.put o.dst v1) w1) :
    wpList P ops Q (o :: rest) a (W.alloc (.cells #[.int k y] e)) := by
  subst hH
  exact print_append_num base hgd s x t e k bytes ho ht hinfo hb0 v xs y hs hx HO HB hbase hl h
end
theorem heap_new_at (W : World) (o : Obj) (H : Nat) (h : W.heap.size = H) : (W.alloc o).heap[H]? = some o := by subst h; exact heap_alloc_new W o
theorem ret_u8 {a b : Int} (h : a = b) : Ending.returned (.int .u8 a) = .returned (.int .u8 b) := by rw [h]

theorem put1_0 (a : Addr) (r : Int) (w : World) (h0 : 0 ≤ r) (h1 : r ≤ 1114111) (hc : w.cell? a = some (.int .i64 r)) :
    Calls Tryz.prog 55 #[.int .i64 0, .pointer (some a)] w fun e w' => e = .returned (.int .u8 (128 + r % 64)) ∧ w' = w := by
  go_enter Tryz.func55, Tryz.ntmps55
  go_wp2
  go_ret
  exact ⟨ret_u8 (by rw [Bit.and63 h0 (by omega), Bit.or128 (by omega) (by omega)]; omega), rfl⟩
theorem put1_6 (a : Addr) (r : Int) (w : World) (h0 : 0 ≤ r) (h1 : r ≤ 1114111) (hc : w.cell? a = some (.int .i64 r)) :
    Calls Tryz.prog 55 #[.int .i64 6, .pointer (some a)] w fun e w' => e = .returned (.int .u8 (128 + r / 64 % 64)) ∧ w' = w := by
  go_enter Tryz.func55, Tryz.ntmps55
  go_wp2
  go_ret
  exact ⟨ret_u8 (by rw [Bit.and63 (by omega) (by omega), Bit.or128 (by omega) (by omega)]; omega), rfl⟩
theorem put1_12 (a : Addr) (r : Int) (w : World) (h0 : 0 ≤ r) (h1 : r ≤ 1114111) (hc : w.cell? a = some (.int .i64 r)) :
    Calls Tryz.prog 55 #[.int .i64 12, .pointer (some a)] w fun e w' => e = .returned (.int .u8 (128 + r / 4096 % 64)) ∧ w' = w := by
  go_enter Tryz.func55, Tryz.ntmps55
  go_wp2
  go_ret
  exact ⟨ret_u8 (by rw [Bit.and63 (by omega) (by omega), Bit.or128 (by omega) (by omega)]; omega), rfl⟩

theorem infoByte : (Tryz.prog.info? 5).map (fun i => (i.zero, i.size, i.bytes)) = some (some (.int .u8 0), 1, 1) := by kernel_rfl

/-- put's contract, said once. -/
abbrev PutPost (B : Nat) (l : List Int) (r : Int) (w : World) (e : Ending) (w' : World) : Prop :=
  ∃ v', e = .returned v' ∧ w'.ownsRow B 5 1 v' (l ++ encI r).length (nums .u8 (l ++ encI r)) ∧ Below B w w'

set_option maxHeartbeats 1000000 in
set_option maxRecDepth 100000 in
theorem put_1 (B : Nat) (v : Value) (l : List Int) (r : Int) (w : World) (hown : w.ownsRow B 5 1 v l.length (nums .u8 l)) (hB : B ≤ w.heap.size) (hl : l.length + 4 ≤ 140737488355328) (h0 : 0 ≤ r) (h1 : r < 128) :
    Calls Tryz.prog 39 #[v, .int .i64 r] w (PutPost B l r w) := by
  have hE : encI r = [r] := by unfold encI; rw [if_pos h1]
  have HE := Lib.hid hE
  clear hE
  obtain ⟨A, c, rfl⟩ := own_slice hown
  have hm : r % 256 = r := by omega
  have HM := Lib.hid hm
  clear hm
  go_enter Tryz.func39, Tryz.ntmps39
  go_wp2_with (at_builtin; refine app_num (w0 := w) B rfl _ _ 41 5 .u8 1 (w.heap.size + 1) (by simp) rfl Tryz.underlying41 infoByte (by decide) _ l r rfl rfl (hown.alloc _) ((Below.refl B w).alloc hB _) (by simp; omega) (by omega) ?_; intro v1 w1 hown1 hb1 hg1 hat1)
  go_wp2
  go_ret
  exact ⟨_, rfl, by rw [HE.out]; exact hown1, hb1⟩

set_option maxHeartbeats 2000000 in
set_option maxRecDepth 100000 in
theorem put_2 (B : Nat) (v : Value) (l : List Int) (r : Int) (w : World) (hown : w.ownsRow B 5 1 v l.length (nums .u8 l)) (hB : B ≤ w.heap.size) (hl : l.length + 4 ≤ 140737488355328) (h0 : 128 ≤ r) (h1 : r < 2048) :
    Calls Tryz.prog 39 #[v, .int .i64 r] w (PutPost B l r w) := by
  have hE : encI r = [192 + r / 64, 128 + r % 64] := by unfold encI; rw [if_neg (by omega), if_pos h1]
  have HE := Lib.hid hE
  clear hE
  obtain ⟨A, c, rfl⟩ := own_slice hown
  obtain ⟨i0, hi, hz0, hz1, hz2⟩ := info_parts infoByte
  have hm : IntKind.u8.wrap (bits .or .i64 192 (r / 64)) = 192 + r / 64 := by rw [Bit.or192 (by omega) (by omega), IntKind.wrap_u8]; omega
  have HM := Lib.hid hm
  clear hm
  have hr0 : 0 ≤ r := by omega
  have hr1 : r ≤ 1114111 := by omega
  go_enter Tryz.func39, Tryz.ntmps39
  go_wp2
  refine wp_region_held_drew (S := fun w' => w'.cell? ⟨w.heap.size, 0, none⟩ = some (.int .i64 r)) (by kernel_rfl) (by simp) (fun hHeld => ?_)
  refine wpAnyH_take (i := 0) (v := ?_) rfl (by kernel_rfl) (by kernel_rfl) (by kernel_rfl) (fun _ _ _ h => h) (Or.inl ⟨by rfl, fun w2 hS => ?hy0⟩) hHeld ?_
  case hy0 => ((try dsimp only at hS); go_simp; try with_reducible rfl)
  try simp only [List.getElem_toArray, List.getElem_cons_succ, List.getElem_cons_zero, Act.put, List.setIfInBounds_toArray, List.set_cons_zero, List.set_cons_succ]
  refine wpAnyH_take (i := 1) (v := ?_) rfl (by kernel_rfl) (by kernel_rfl) (by kernel_rfl) (fun _ _ _ h => h) (Or.inl ⟨by rfl, fun w2 hS => ?hy1⟩) hHeld ?_
  case hy1 => ((try dsimp only at hS); go_simp; try with_reducible rfl)
  try simp only [List.getElem_toArray, List.getElem_cons_succ, List.getElem_cons_zero, Act.put, List.setIfInBounds_toArray, List.set_cons_zero, List.set_cons_succ]
  refine wpAnyH_take (i := 2) (v := ?_) rfl (by kernel_rfl) (by kernel_rfl) (by kernel_rfl) (fun _ _ _ h => h) (Or.inl ⟨by rfl, fun w2 hS => ?hy2⟩) hHeld ?_
  case hy2 => ((try dsimp only at hS); go_simp; try with_reducible rfl)
  try simp only [List.getElem_toArray, List.getElem_cons_succ, List.getElem_cons_zero, Act.put, List.setIfInBounds_toArray, List.set_cons_zero, List.set_cons_succ]
  refine wpAnyH_take (i := 3) (v := ?_) rfl (by kernel_rfl) (by kernel_rfl) (by kernel_rfl) (fun _ _ _ h => h) (Or.inl ⟨by rfl, fun w2 hS => ?hy3⟩) hHeld ?_
  case hy3 => ((try dsimp only at hS); go_simp; try with_reducible rfl)
  try simp only [List.getElem_toArray, List.getElem_cons_succ, List.getElem_cons_zero, Act.put, List.setIfInBounds_toArray, List.set_cons_zero, List.set_cons_succ]
  refine wpAnyH_take (i := 4) (v := ?_) rfl (by kernel_rfl) (by kernel_rfl) (by kernel_rfl) (fun _ _ _ h => h) (Or.inl ⟨by rfl, fun w2 hS => ?hy4⟩) hHeld ?_
  case hy4 => ((try dsimp only at hS); go_simp; try with_reducible rfl)
  try simp only [List.getElem_toArray, List.getElem_cons_succ, List.getElem_cons_zero, Act.put, List.setIfInBounds_toArray, List.set_cons_zero, List.set_cons_succ]
  refine wpAnyH_take (i := 5) (v := ?_) rfl (by kernel_rfl) (by kernel_rfl) (by kernel_rfl) (fun _ _ _ h => h) (Or.inl ⟨by rfl, fun w2 hS => ?hy5⟩) hHeld ?_
  case hy5 => ((try dsimp only at hS); go_simp; try with_reducible rfl)
  try simp only [List.getElem_toArray, List.getElem_cons_succ, List.getElem_cons_zero, Act.put, List.setIfInBounds_toArray, List.set_cons_zero, List.set_cons_succ]
  refine wpAnyH_ready (rs := [6]) (by kernel_rfl) (by simp) ?_
  refine AllReadyH.cons rfl (fun K hK => ?_) AllReadyH.nil
  go_simp
  refine (put1_0 _ r _ hr0 hr1 hHeld).mono ?_
  rintro e w1 ⟨rfl, rfl⟩
  refine hK.out _ _ hHeld (fun _ => ?_)
  clear hK K
  try simp only [List.getElem_toArray, List.getElem_cons_succ, List.getElem_cons_zero, Act.put, List.setIfInBounds_toArray, List.set_cons_zero, List.set_cons_succ]
  refine wpAnyH_ready (rs := [7]) (by kernel_rfl) (by simp) ?_
  refine AllReadyH.cons rfl (fun K hK => ?_) AllReadyH.nil
  go_simp
  refine hK.out _ _ (by simp) (fun hHeld2 => ?_)
  clear hK K hHeld
  try simp only [List.getElem_toArray, List.getElem_cons_succ, List.getElem_cons_zero, Act.put, List.setIfInBounds_toArray, List.set_cons_zero, List.set_cons_succ]
  refine wpAnyH_ready (rs := [8]) (by kernel_rfl) (by simp) ?_
  refine AllReadyH.cons rfl (fun K hK => ?_) AllReadyH.nil
  refine step_append_lies _ rfl _ _ 41 rfl B 5 i0 (.int .u8 0) 1 1 Tryz.underlying41 hi hz0 hz1 hz2 rfl (by decide) _ l.length (nums .u8 l) rfl (by repeat (first | exact hown | refine World.ownsRow.drew ?_ | refine World.ownsRow.alloc ?_ _)) ⟨w.heap.size + 1, 0, none⟩ 2 2 (nums .u8 [IntKind.u8.wrap (bits .or .i64 192 (r / 64)), 128 + r % 64]) rfl rfl (World.news_of_block (cs := #[.int .u8 (IntKind.u8.wrap (bits .or .i64 192 (r / 64))), .int .u8 (128 + r % 64)]) (t := 5) (fr := (0, 0)) (heap_new_at _ _ _ (by simp))) (by simp [nums, Value.oneCell']) (by decide) (by unfold maxLen; omega) (by omega) (by simp; omega) _ rfl ?_
  intro g cap w' hown' hgrow hat hlt
  have hc9 := hgrow.cell hHeld2 (fun h => by have := own_lt hown _ h.symm; exact absurd this (by simp))
  refine hK.out _ _ hc9 (fun hHeld => ?_)
  clear hK K hHeld2
  try simp only [List.getElem_toArray, List.getElem_cons_succ, List.getElem_cons_zero, Act.put, List.setIfInBounds_toArray, List.set_cons_zero, List.set_cons_succ]
  refine wpAnyH_take (i := 9) (v := ?_) rfl (by kernel_rfl) (by kernel_rfl) (by kernel_rfl) (fun _ _ _ h => h) (Or.inl ⟨by rfl, fun w2 hS => ?hy9⟩) hHeld ?_
  case hy9 => ((try dsimp only at hS); go_simp; try with_reducible rfl)
  try simp only [List.getElem_toArray, List.getElem_cons_succ, List.getElem_cons_zero, Act.put, List.setIfInBounds_toArray, List.set_cons_zero, List.set_cons_succ]
  refine wpAnyH_done (by kernel_rfl) ?_ _
  have hb9 : Below B w w' := Below.grown (w := _) (by repeat (first | exact Below.refl B w | refine Below.drew ?_ | refine Below.alloc ?_ (by first | exact hB | (simp; omega)) _)) hgrow (by simp; omega) (own_base hown)
  go_wp2
  go_ret
  exact ⟨_, rfl, by rw [HE.out, ← HM.out]; simpa [nums] using hown', hb9⟩

set_option maxHeartbeats 2000000 in
set_option maxRecDepth 100000 in
theorem put_3 (B : Nat) (v : Value) (l : List Int) (r : Int) (w : World) (hown : w.ownsRow B 5 1 v l.length (nums .u8 l)) (hB : B ≤ w.heap.size) (hl : l.length + 4 ≤ 140737488355328) (h0 : 2048 ≤ r) (h1 : r < 65536) :
    Calls Tryz.prog 39 #[v, .int .i64 r] w (PutPost B l r w) := by
  have hE : encI r = [224 + r / 4096, 128 + r / 64 % 64, 128 + r % 64] := by unfold encI; rw [if_neg (by omega), if_neg (by omega), if_pos h1]
  have HE := Lib.hid hE
  clear hE
  obtain ⟨A, c, rfl⟩ := own_slice hown
  obtain ⟨i0, hi, hz0, hz1, hz2⟩ := info_parts infoByte
  have hm : IntKind.u8.wrap (bits .or .i64 224 (r / 4096)) = 224 + r / 4096 := by rw [Bit.or224 (by omega) (by omega), IntKind.wrap_u8]; omega
  have HM := Lib.hid hm
  clear hm
  have hr0 : 0 ≤ r := by omega
  have hr1 : r ≤ 1114111 := by omega
  go_enter Tryz.func39, Tryz.ntmps39
  go_wp2
  refine wp_region_held_drew (S := fun w' => w'.cell? ⟨w.heap.size, 0, none⟩ = some (.int .i64 r)) (by kernel_rfl) (by simp) (fun hHeld => ?_)
  refine wpAnyH_take (i := 0) (v := ?_) rfl (by kernel_rfl) (by kernel_rfl) (by kernel_rfl) (fun _ _ _ h => h) (Or.inl ⟨by rfl, fun w2 hS => ?hy0⟩) hHeld ?_
  case hy0 => ((try dsimp only at hS); go_simp; try with_reducible rfl)
  try simp only [List.getElem_toArray, List.getElem_cons_succ, List.getElem_cons_zero, Act.put, List.setIfInBounds_toArray, List.set_cons_zero, List.set_cons_succ]
  refine wpAnyH_take (i := 1) (v := ?_) rfl (by kernel_rfl) (by kernel_rfl) (by kernel_rfl) (fun _ _ _ h => h) (Or.inl ⟨by rfl, fun w2 hS => ?hy1⟩) hHeld ?_
  case hy1 => ((try dsimp only at hS); go_simp; try with_reducible rfl)
  try simp only [List.getElem_toArray, List.getElem_cons_succ, List.getElem_cons_zero, Act.put, List.setIfInBounds_toArray, List.set_cons_zero, List.set_cons_succ]
  refine wpAnyH_take (i := 2) (v := ?_) rfl (by kernel_rfl) (by kernel_rfl) (by kernel_rfl) (fun _ _ _ h => h) (Or.inl ⟨by rfl, fun w2 hS => ?hy2⟩) hHeld ?_
  case hy2 => ((try dsimp only at hS); go_simp; try with_reducible rfl)
  try simp only [List.getElem_toArray, List.getElem_cons_succ, List.getElem_cons_zero, Act.put, List.setIfInBounds_toArray, List.set_cons_zero, List.set_cons_succ]
  refine wpAnyH_take (i := 3) (v := ?_) rfl (by kernel_rfl) (by kernel_rfl) (by kernel_rfl) (fun _ _ _ h => h) (Or.inl ⟨by rfl, fun w2 hS => ?hy3⟩) hHeld ?_
  case hy3 => ((try dsimp only at hS); go_simp; try with_reducible rfl)
  try simp only [List.getElem_toArray, List.getElem_cons_succ, List.getElem_cons_zero, Act.put, List.setIfInBounds_toArray, List.set_cons_zero, List.set_cons_succ]
  refine wpAnyH_take (i := 4) (v := ?_) rfl (by kernel_rfl) (by kernel_rfl) (by kernel_rfl) (fun _ _ _ h => h) (Or.inl ⟨by rfl, fun w2 hS => ?hy4⟩) hHeld ?_
  case hy4 => ((try dsimp only at hS); go_simp; try with_reducible rfl)
  try simp only [List.getElem_toArray, List.getElem_cons_succ, List.getElem_cons_zero, Act.put, List.setIfInBounds_toArray, List.set_cons_zero, List.set_cons_succ]
  refine wpAnyH_take (i := 5) (v := ?_) rfl (by kernel_rfl) (by kernel_rfl) (by kernel_rfl) (fun _ _ _ h => h) (Or.inl ⟨by rfl, fun w2 hS => ?hy5⟩) hHeld ?_
  case hy5 => ((try dsimp only at hS); go_simp; try with_reducible rfl)
  try simp only [List.getElem_toArray, List.getElem_cons_succ, List.getElem_cons_zero, Act.put, List.setIfInBounds_toArray, List.set_cons_zero, List.set_cons_succ]
  refine wpAnyH_take (i := 7) (v := ?_) rfl (by kernel_rfl) (by kernel_rfl) (by kernel_rfl) (fun _ _ _ h => h) (Or.inl ⟨by rfl, fun w2 hS => ?hy7⟩) hHeld ?_
  case hy7 => ((try dsimp only at hS); go_simp; try with_reducible rfl)
  try simp only [List.getElem_toArray, List.getElem_cons_succ, List.getElem_cons_zero, Act.put, List.setIfInBounds_toArray, List.set_cons_zero, List.set_cons_succ]
  refine wpAnyH_ready (rs := [6]) (by kernel_rfl) (by simp) ?_
  refine AllReadyH.cons rfl (fun K hK => ?_) AllReadyH.nil
  go_simp
  refine (put1_6 _ r _ hr0 hr1 hHeld).mono ?_
  rintro e w1 ⟨rfl, rfl⟩
  refine hK.out _ _ hHeld (fun _ => ?_)
  clear hK K
  try simp only [List.getElem_toArray, List.getElem_cons_succ, List.getElem_cons_zero, Act.put, List.setIfInBounds_toArray, List.set_cons_zero, List.set_cons_succ]
  refine wpAnyH_ready (rs := [8]) (by kernel_rfl) (by simp) ?_
  refine AllReadyH.cons rfl (fun K hK => ?_) AllReadyH.nil
  go_simp
  refine (put1_0 _ r _ hr0 hr1 hHeld).mono ?_
  rintro e w1 ⟨rfl, rfl⟩
  refine hK.out _ _ hHeld (fun _ => ?_)
  clear hK K
  try simp only [List.getElem_toArray, List.getElem_cons_succ, List.getElem_cons_zero, Act.put, List.setIfInBounds_toArray, List.set_cons_zero, List.set_cons_succ]
  refine wpAnyH_ready (rs := [9]) (by kernel_rfl) (by simp) ?_
  refine AllReadyH.cons rfl (fun K hK => ?_) AllReadyH.nil
  go_simp
  refine hK.out _ _ (by simp) (fun hHeld2 => ?_)
  clear hK K hHeld
  try simp only [List.getElem_toArray, List.getElem_cons_succ, List.getElem_cons_zero, Act.put, List.setIfInBounds_toArray, List.set_cons_zero, List.set_cons_succ]
  refine wpAnyH_ready (rs := [10]) (by kernel_rfl) (by simp) ?_
  refine AllReadyH.cons rfl (fun K hK => ?_) AllReadyH.nil
  refine step_append_lies _ rfl _ _ 41 rfl B 5 i0 (.int .u8 0) 1 1 Tryz.underlying41 hi hz0 hz1 hz2 rfl (by decide) _ l.length (nums .u8 l) rfl (by repeat (first | exact hown | refine World.ownsRow.drew ?_ | refine World.ownsRow.alloc ?_ _)) ⟨w.heap.size + 1, 0, none⟩ 3 3 (nums .u8 [IntKind.u8.wrap (bits .or .i64 224 (r / 4096)), 128 + r / 64 % 64, 128 + r % 64]) rfl rfl (World.news_of_block (cs := #[.int .u8 (IntKind.u8.wrap (bits .or .i64 224 (r / 4096))), .int .u8 (128 + r / 64 % 64), .int .u8 (128 + r % 64)]) (t := 5) (fr := (0, 0)) (heap_new_at _ _ _ (by simp))) (by simp [nums, Value.oneCell']) (by decide) (by unfold maxLen; omega) (by omega) (by simp; omega) _ rfl ?_
  intro g cap w' hown' hgrow hat hlt
  have hc9 := hgrow.cell hHeld2 (fun h => by have := own_lt hown _ h.symm; exact absurd this (by simp))
  refine hK.out _ _ hc9 (fun hHeld => ?_)
  clear hK K hHeld2
  try simp only [List.getElem_toArray, List.getElem_cons_succ, List.getElem_cons_zero, Act.put, List.setIfInBounds_toArray, List.set_cons_zero, List.set_cons_succ]
  refine wpAnyH_take (i := 11) (v := ?_) rfl (by kernel_rfl) (by kernel_rfl) (by kernel_rfl) (fun _ _ _ h => h) (Or.inl ⟨by rfl, fun w2 hS => ?hy11⟩) hHeld ?_
  case hy11 => ((try dsimp only at hS); go_simp; try with_reducible rfl)
  try simp only [List.getElem_toArray, List.getElem_cons_succ, List.getElem_cons_zero, Act.put, List.setIfInBounds_toArray, List.set_cons_zero, List.set_cons_succ]
  refine wpAnyH_done (by kernel_rfl) ?_ _
  have hb9 : Below B w w' := Below.grown (w := _) (by repeat (first | exact Below.refl B w | refine Below.drew ?_ | refine Below.alloc ?_ (by first | exact hB | (simp; omega)) _)) hgrow (by simp; omega) (own_base hown)
  go_wp2
  go_ret
  exact ⟨_, rfl, by rw [HE.out, ← HM.out]; simpa [nums] using hown', hb9⟩

set_option maxHeartbeats 2000000 in
set_option maxRecDepth 100000 in
theorem put_4 (B : Nat) (v : Value) (l : List Int) (r : Int) (w : World) (hown : w.ownsRow B 5 1 v l.length (nums .u8 l)) (hB : B ≤ w.heap.size) (hl : l.length + 4 ≤ 140737488355328) (h0 : 65536 ≤ r) (h1 : r ≤ 1114111) :
    Calls Tryz.prog 39 #[v, .int .i64 r] w (PutPost B l r w) := by
  have hE : encI r = [240 + r / 262144, 128 + r / 4096 % 64, 128 + r / 64 % 64, 128 + r % 64] := by unfold encI; rw [if_neg (by omega), if_neg (by omega), if_neg (by omega)]
  have HE := Lib.hid hE
  clear hE
  obtain ⟨A, c, rfl⟩ := own_slice hown
  obtain ⟨i0, hi, hz0, hz1, hz2⟩ := info_parts infoByte
  have hm : IntKind.u8.wrap (bits .or .i64 240 (r / 262144)) = 240 + r / 262144 := by rw [Bit.or240 (by omega) (by omega), IntKind.wrap_u8]; omega
  have HM := Lib.hid hm
  clear hm
  have hr0 : 0 ≤ r := by omega
  have hr1 : r ≤ 1114111 := by omega
  go_enter Tryz.func39, Tryz.ntmps39
  go_wp2
  refine wp_region_held_drew (S := fun w' => w'.cell? ⟨w.heap.size, 0, none⟩ = some (.int .i64 r)) (by kernel_rfl) (by simp) (fun hHeld => ?_)
  refine wpAnyH_take (i := 0) (v := ?_) rfl (by kernel_rfl) (by kernel_rfl) (by kernel_rfl) (fun _ _ _ h => h) (Or.inl ⟨by rfl, fun w2 hS => ?hy0⟩) hHeld ?_
  case hy0 => ((try dsimp only at hS); go_simp; try with_reducible rfl)
  try simp only [List.getElem_toArray, List.getElem_cons_succ, List.getElem_cons_zero, Act.put, List.setIfInBounds_toArray, List.set_cons_zero, List.set_cons_succ]
  refine wpAnyH_take (i := 1) (v := ?_) rfl (by kernel_rfl) (by kernel_rfl) (by kernel_rfl) (fun _ _ _ h => h) (Or.inl ⟨by rfl, fun w2 hS => ?hy1⟩) hHeld ?_
  case hy1 => ((try dsimp only at hS); go_simp; try with_reducible rfl)
  try simp only [List.getElem_toArray, List.getElem_cons_succ, List.getElem_cons_zero, Act.put, List.setIfInBounds_toArray, List.set_cons_zero, List.set_cons_succ]
  refine wpAnyH_take (i := 2) (v := ?_) rfl (by kernel_rfl) (by kernel_rfl) (by kernel_rfl) (fun _ _ _ h => h) (Or.inl ⟨by rfl, fun w2 hS => ?hy2⟩) hHeld ?_
  case hy2 => ((try dsimp only at hS); go_simp; try with_reducible rfl)
  try simp only [List.getElem_toArray, List.getElem_cons_succ, List.getElem_cons_zero, Act.put, List.setIfInBounds_toArray, List.set_cons_zero, List.set_cons_succ]
  refine wpAnyH_take (i := 3) (v := ?_) rfl (by kernel_rfl) (by kernel_rfl) (by kernel_rfl) (fun _ _ _ h => h) (Or.inl ⟨by rfl, fun w2 hS => ?hy3⟩) hHeld ?_
  case hy3 => ((try dsimp only at hS); go_simp; try with_reducible rfl)
  try simp only [List.getElem_toArray, List.getElem_cons_succ, List.getElem_cons_zero, Act.put, List.setIfInBounds_toArray, List.set_cons_zero, List.set_cons_succ]
  refine wpAnyH_take (i := 4) (v := ?_) rfl (by kernel_rfl) (by kernel_rfl) (by kernel_rfl) (fun _ _ _ h => h) (Or.inl ⟨by rfl, fun w2 hS => ?hy4⟩) hHeld ?_
  case hy4 => ((try dsimp only at hS); go_simp; try with_reducible rfl)
  try simp only [List.getElem_toArray, List.getElem_cons_succ, List.getElem_cons_zero, Act.put, List.setIfInBounds_toArray, List.set_cons_zero, List.set_cons_succ]
  refine wpAnyH_take (i := 5) (v := ?_) rfl (by kernel_rfl) (by kernel_rfl) (by kernel_rfl) (fun _ _ _ h => h) (Or.inl ⟨by rfl, fun w2 hS => ?hy5⟩) hHeld ?_
  case hy5 => ((try dsimp only at hS); go_simp; try with_reducible rfl)
  try simp only [List.getElem_toArray, List.getElem_cons_succ, List.getElem_cons_zero, Act.put, List.setIfInBounds_toArray, List.set_cons_zero, List.set_cons_succ]
  refine wpAnyH_take (i := 7) (v := ?_) rfl (by kernel_rfl) (by kernel_rfl) (by kernel_rfl) (fun _ _ _ h => h) (Or.inl ⟨by rfl, fun w2 hS => ?hy7⟩) hHeld ?_
  case hy7 => ((try dsimp only at hS); go_simp; try with_reducible rfl)
  try simp only [List.getElem_toArray, List.getElem_cons_succ, List.getElem_cons_zero, Act.put, List.setIfInBounds_toArray, List.set_cons_zero, List.set_cons_succ]
  refine wpAnyH_take (i := 9) (v := ?_) rfl (by kernel_rfl) (by kernel_rfl) (by kernel_rfl) (fun _ _ _ h => h) (Or.inl ⟨by rfl, fun w2 hS => ?hy9⟩) hHeld ?_
  case hy9 => ((try dsimp only at hS); go_simp; try with_reducible rfl)
  try simp only [List.getElem_toArray, List.getElem_cons_succ, List.getElem_cons_zero, Act.put, List.setIfInBounds_toArray, List.set_cons_zero, List.set_cons_succ]
  refine wpAnyH_ready (rs := [6]) (by kernel_rfl) (by simp) ?_
  refine AllReadyH.cons rfl (fun K hK => ?_) AllReadyH.nil
  go_simp
  refine (put1_12 _ r _ hr0 hr1 hHeld).mono ?_
  rintro e w1 ⟨rfl, rfl⟩
  refine hK.out _ _ hHeld (fun _ => ?_)
  clear hK K
  try simp only [List.getElem_toArray, List.getElem_cons_succ, List.getElem_cons_zero, Act.put, List.setIfInBounds_toArray, List.set_cons_zero, List.set_cons_succ]
  refine wpAnyH_ready (rs := [8]) (by kernel_rfl) (by simp) ?_
  refine AllReadyH.cons rfl (fun K hK => ?_) AllReadyH.nil
  go_simp
  refine (put1_6 _ r _ hr0 hr1 hHeld).mono ?_
  rintro e w1 ⟨rfl, rfl⟩
  refine hK.out _ _ hHeld (fun _ => ?_)
  clear hK K
  try simp only [List.getElem_toArray, List.getElem_cons_succ, List.getElem_cons_zero, Act.put, List.setIfInBounds_toArray, List.set_cons_zero, List.set_cons_succ]
  refine wpAnyH_ready (rs := [10]) (by kernel_rfl) (by simp) ?_
  refine AllReadyH.cons rfl (fun K hK => ?_) AllReadyH.nil
  go_simp
  refine (put1_0 _ r _ hr0 hr1 hHeld).mono ?_
  rintro e w1 ⟨rfl, rfl⟩
  refine hK.out _ _ hHeld (fun _ => ?_)
  clear hK K
  try simp only [List.getElem_toArray, List.getElem_cons_succ, List.getElem_cons_zero, Act.put, List.setIfInBounds_toArray, List.set_cons_zero, List.set_cons_succ]
  refine wpAnyH_ready (rs := [11]) (by kernel_rfl) (by simp) ?_
  refine AllReadyH.cons rfl (fun K hK => ?_) AllReadyH.nil
  go_simp
  refine hK.out _ _ (by simp) (fun hHeld2 => ?_)
  clear hK K hHeld
  try simp only [List.getElem_toArray, List.getElem_cons_succ, List.getElem_cons_zero, Act.put, List.setIfInBounds_toArray, List.set_cons_zero, List.set_cons_succ]
  refine wpAnyH_ready (rs := [12]) (by kernel_rfl) (by simp) ?_
  refine AllReadyH.cons rfl (fun K hK => ?_) AllReadyH.nil
  refine step_append_lies _ rfl _ _ 41 rfl B 5 i0 (.int .u8 0) 1 1 Tryz.underlying41 hi hz0 hz1 hz2 rfl (by decide) _ l.length (nums .u8 l) rfl (by repeat (first | exact hown | refine World.ownsRow.drew ?_ | refine World.ownsRow.alloc ?_ _)) ⟨w.heap.size + 1, 0, none⟩ 4 4 (nums .u8 [IntKind.u8.wrap (bits .or .i64 240 (r / 262144)), 128 + r / 4096 % 64, 128 + r / 64 % 64, 128 + r % 64]) rfl rfl (World.news_of_block (cs := #[.int .u8 (IntKind.u8.wrap (bits .or .i64 240 (r / 262144))), .int .u8 (128 + r / 4096 % 64), .int .u8 (128 + r / 64 % 64), .int .u8 (128 + r % 64)]) (t := 5) (fr := (0, 0)) (heap_new_at _ _ _ (by simp))) (by simp [nums, Value.oneCell']) (by decide) (by unfold maxLen; omega) (by omega) (by simp; omega) _ rfl ?_
  intro g cap w' hown' hgrow hat hlt
  have hc9 := hgrow.cell hHeld2 (fun h => by have := own_lt hown _ h.symm; exact absurd this (by simp))
  refine hK.out _ _ hc9 (fun hHeld => ?_)
  clear hK K hHeld2
  try simp only [List.getElem_toArray, List.getElem_cons_succ, List.getElem_cons_zero, Act.put, List.setIfInBounds_toArray, List.set_cons_zero, List.set_cons_succ]
  refine wpAnyH_take (i := 13) (v := ?_) rfl (by kernel_rfl) (by kernel_rfl) (by kernel_rfl) (fun _ _ _ h => h) (Or.inl ⟨by rfl, fun w2 hS => ?hy13⟩) hHeld ?_
  case hy13 => ((try dsimp only at hS); go_simp; try with_reducible rfl)
  try simp only [List.getElem_toArray, List.getElem_cons_succ, List.getElem_cons_zero, Act.put, List.setIfInBounds_toArray, List.set_cons_zero, List.set_cons_succ]
  refine wpAnyH_done (by kernel_rfl) ?_ _
  have hb9 : Below B w w' := Below.grown (w := _) (by repeat (first | exact Below.refl B w | refine Below.drew ?_ | refine Below.alloc ?_ (by first | exact hB | (simp; omega)) _)) hgrow (by simp; omega) (own_base hown)
  go_wp2
  go_ret
  exact ⟨_, rfl, by rw [HE.out, ← HM.out]; simpa [nums] using hown', hb9⟩


/-- text.put, at any character. -/
theorem put_any (B : Nat) (v : Value) (l : List Int) (r : Int) (w : World) (hown : w.ownsRow B 5 1 v l.length (nums .u8 l)) (hB : B ≤ w.heap.size) (hl : l.length + 4 ≤ 140737488355328) (h0 : 0 ≤ r) (h1 : r ≤ 1114111) :
    Calls Tryz.prog 39 #[v, .int .i64 r] w (PutPost B l r w) := by
  by_cases h2 : r < 128
  · exact put_1 B v l r w hown hB hl h0 h2
  · by_cases h3 : r < 2048
    · exact put_2 B v l r w hown hB hl (by omega) h3
    · by_cases h4 : r < 65536
      · exact put_3 B v l r w hown hB hl (by omega) h4
      · exact put_4 B v l r w hown hB hl (by omega) h1
end Go.Proofs.YtgdfgahpjebcaaaGreatDoor
/-
  text.Bytes and text.Runes, walked.
-/
namespace Go.Proofs.YtgdfgahpjebcaaaGreatDoor
open Go.RowKit Go.Proofs.YtgdfgahpjebcaaaGreatDoorW.PrintWords Go.Proofs.YtgdfgahpjebcaaaGreatDoor.PT

theorem character_f (r : Int) : text_character.f r = some (charB r) := by
  unfold text_character.f charB
  by_cases h1 : 0 ≤ r
  · rw [if_pos h1]
    by_cases h2 : r ≤ 1114111
    · rw [if_pos h2]
      by_cases h3 : r < 55296
      · rw [if_pos h3]; simp [h1, h2, h3]
      · rw [if_neg h3]; simp [h1, h2, h3]
    · rw [if_neg h2]; simp [h1, h2]
  · rw [if_neg h1]; simp [h1]

theorem all_take (l : List Int) (i : Nat) (hi : i < l.length) (h : (l.take i).all charB = true) (hc : charB l[i] = true) : (l.take (i + 1)).all charB = true := by
  rw [List.take_succ_eq_append_getElem hi, List.all_append, h]; simp [hc]
theorem encs_take (l : List Int) (i : Nat) (hi : i < l.length) : encs (l.take (i + 1)) = encs (l.take i) ++ encI l[i] := by
  rw [List.take_succ_eq_append_getElem hi, encs_app]; simp [encs]
theorem not_all (l : List Int) (i : Nat) (hi : i < l.length) (hc : charB l[i] = false) : l.all charB = false := by
  rw [Bool.eq_false_iff]
  intro h
  have := List.all_eq_true.1 h l[i] (List.getElem_mem hi)
  rw [hc] at this; cases this

set_option maxHeartbeats 2000000 in
set_option maxRecDepth 100000 in
theorem bytes_any (A0 : Option Addr) (c0 : Nat) (l : List Int) (w : World) (hr0 : Kd.C (Kd.int .i64) w A0 l.length l) (hc0 : l.length ≤ c0) (hl : l.length ≤ 17592186044416) :
    Calls Tryz.prog 28 #[.slice A0 l.length c0] w fun e w' => e = .returned (.tuple #[.string (bytesS l).1, .int .i64 (bytesS l).2]) ∧ Below w.heap.size w w' := by
  have HR0 := Aside0.mk hr0
  clear hr0
  go_enter Tryz.func28, Tryz.ntmps28
  go_wp2
  go_loopg [4, 9] l.length (fun kq v4 v9 w' => ∃ i : Nat, v9 = .int .i64 i ∧ Aside0 (i ≤ l.length ∧ kq = l.length - i ∧ (l.take i).all charB = true) ∧ Aside0 (w'.ownsRow w.heap.size 5 1 v4 (encs (l.take i)).length (nums .u8 (encs (l.take i)))) ∧ Aside0 (Below w.heap.size w w'))
  case atStart => exact ⟨0, rfl, ⟨Nat.zero_le _, rfl, rfl⟩, ⟨by simpa [encs_nil, nums] using own_nil w w.heap.size 5 1⟩, ⟨Below.refl _ _⟩⟩
  case round =>
    obtain ⟨i, rfl, HI, HO, HB⟩ := hrel
    by_cases hlt : i < l.length
    · have hx := Kd.at_int HR0.out (i : Int) (by omega) (by omega)
      obtain ⟨ad, rfl, hx⟩ := hx
      have hrd : rd l (i : Int) = l[i] := by simp [rd, List.getD_eq_getElem?_getD, List.getElem?_eq_getElem hlt]
      have HRD := Aside0.mk hrd
      clear hrd
      rw [Int.toNat_natCast] at hx
      replace hx := (HB.out.cell (World.block_lt_of_cell? w _ hx)).trans hx
      have p1 : (0 : Int) ≤ (i : Int) := by omega
      have q1 : ((i : Int) < (l.length : Int)) = True := eq_true (by omega)
      have hsz := HB.out.size
      have hlen := encs_len (l.take i)
      have hlt2 : (l.take i).length ≤ i := List.length_take_le _ _
      obtain ⟨b, hb⟩ : ∃ b, charB (rd l (i : Int)) = b := ⟨_, rfl⟩
      have hch := character_f (rd l (i : Int))
      rw [hb] at hch
      have HCH := Aside0.mk hch
      have HBB := Aside0.mk hb
      clear hch hb
      cases b with
      | true =>
        have hin := (charB_spec _).1 HBB.out
        obtain ⟨hi0, hi1, _⟩ := hin
        go_wp2_with (first
          | (go_at_call 46; (with_reducible refine (text_character.calls (rd l (i : Int)) true _ HCH.out).mono ?_); rintro e w1 ⟨rfl, ⟨nd, rfl⟩⟩)
          | (go_at_call 39; refine (put_any w.heap.size _ (encs (l.take i)) (rd l (i : Int)) _ (by exact HO.out) (by exact hsz) (by omega) hi0 hi1).mono ?_; rintro e w2 ⟨v', rfl, ho2, hb2⟩))
        go_roundg (l.length - (i + 1))
        case measure => have := HI.out; omega
        case rel => exact ⟨i + 1, by go_num, ⟨by omega, rfl, all_take l i hlt HI.out.2.2 (by rw [← HRD.out]; exact HBB.out)⟩, ⟨by rw [encs_take l i hlt, ← HRD.out]; exact ho2⟩, ⟨(below_drewN HB.out nd).trans hb2⟩⟩
      | false =>
        go_wp2_with (first
          | (go_at_call 46; (with_reducible refine (text_character.calls (rd l (i : Int)) false _ HCH.out).mono ?_); rintro e w1 ⟨rfl, ⟨nd, rfl⟩⟩))
        go_ret2
        have hna := not_all l i hlt (by rw [← HRD.out]; exact HBB.out)
        exact ⟨by simp [bytesS, hna], below_drewN HB.out nd⟩
    · have hi : i = l.length := by have := HI.out.1; omega
      subst hi
      have hall := HI.out.2.2
      have hO := HO.out
      rw [List.take_length] at hall hO
      have hstr := own_string (src := 41) (dst := 9) (e := 5) Tryz.underlying41 Tryz.underlying5 Tryz.underlying9 hO
      have HALL := Aside0.mk hall
      clear hall hO hlt
      have q1 : ((l.length : Int) < (l.length : Int)) = False := eq_false (by omega)
      go_wp2
      go_ret2
      exact ⟨by simp [bytesS, HALL.out], HB.out⟩
end Go.Proofs.YtgdfgahpjebcaaaGreatDoor
