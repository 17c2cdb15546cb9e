/-
  From the rows' condition (seven listed variables) to Env; a world that meets it.
-/
import Derived.Test.YtjaongknagmfiaaGreatDoorNe
import Derived.Test.YtjaongknagmfiaaGreatDoorRows
import Derived.Lib.LaidTab
import Derived.ProofKit
import Derived.LaidMore
import Derived.OpenShut
import Derived.LaidLaws
import Derived.Lay
import Derived.MakeChecks
import Derived.Stop.Joined
import Derived.ChangeSame
import Derived.ChangeVars
import Derived.JoinedOf
import Derived.RowKitTokens
set_option linter.unusedSimpArgs false
set_option linter.unusedVariables false
namespace Go.Proofs.YtjaongknagmfiaaGreatDoor
open Go.ChangeShapes Go.WideShapes Go.RowKit

abbrev laid7 : List (String × DataW Unit) := [("math/bits.deBruijn32tab", Rows.laid_math_bits_deBruijn32tab), ("math/bits.deBruijn64tab", Rows.laid_math_bits_deBruijn64tab), ("internal/strconv.uint64pow10", Rows.laid_internal_strconv_uint64pow10), ("unicode/utf8.acceptRanges", Rows.laid_unicode_utf8_acceptRanges), ("strconv.ErrRange", Rows.laid_strconv_ErrRange), ("strconv.ErrSyntax", Rows.laid_strconv_ErrSyntax), ("unicode/utf8.first", Rows.laid_unicode_utf8_first)]
theorem ownk : ownKnob Tryz.prog.godebug = none := by kernel_rfl
theorem powTy : (Tryz.prog.globals[1]?).map (·.type) = some 114 := by kernel_rfl
theorem powCells : Tryz.prog.cellsOf 114 = 20 := by kernel_rfl
theorem u64Cells : Tryz.prog.cellsOf 58 = 1 := by kernel_rfl
theorem laidMet_tail {P : Program} {x : String × DataW Unit} {rest : List (String × DataW Unit)} {W : World} (h : laidMet P (x :: rest) W) : laidMet P rest W := by
  obtain ⟨ps, ⟨g', t', cs, fuel, p, q, hg', ht', hvar, hd, hr, rfl⟩, hnd, hc⟩ := h
  exact ⟨q, hr, (List.nodup_append.1 hnd).2.1, fun b off hm => hc b off (List.mem_append_right _ hm)⟩
theorem globBig : Tryz.prog.globalNamed "math/bits.deBruijn64tab" = some 7 := by kernel_rfl
theorem var_lt {P : Program} {W : World} {n : String} {g : Nat} {cs : Array Value} (hg : P.globalNamed n = some g) (h : W.var? P n = some cs) : g < W.heap.size := by
  by_cases hk : g < W.heap.size
  · exact hk
  · exfalso
    simp [World.var?, hg, Array.getElem?_eq_none (Nat.le_of_not_lt hk)] at h
theorem env_of_laid {W : World} (h : laidMetH Tryz.prog laid7 W) : Env W := by
  rw [MakeChecks.laidMetH_plain _ _ _ (by kernel_rfl)] at h
  have hd : laidMet Tryz.prog (("math/bits.deBruijn32tab", Rows.laid_math_bits_deBruijn32tab) :: ("math/bits.deBruijn64tab", Rows.laid_math_bits_deBruijn64tab) :: ("internal/strconv.uint64pow10", Rows.laid_internal_strconv_uint64pow10) :: [("unicode/utf8.acceptRanges", Rows.laid_unicode_utf8_acceptRanges), ("strconv.ErrRange", Rows.laid_strconv_ErrRange), ("strconv.ErrSyntax", Rows.laid_strconv_ErrSyntax), ("unicode/utf8.first", Rows.laid_unicode_utf8_first)]) W := h
  have hpow := laidMet_tail (laidMet_tail hd)
  have htab : Lib.TabIs Tryz.prog W "internal/strconv.uint64pow10" .u64 Lib.pow10Tab := Lib.tabIs_of_head Tryz.globPow powTy Tryz.underlying114 Tryz.underlying58 u64Cells powCells hpow
  refine ⟨htab, ?_⟩
  have h64 := laidMet_tail hd
  obtain ⟨ps, ⟨g', t', cs, fuel, p, q, hg', ht', hvar, hd', hr, _⟩, hnd, hc⟩ := h64
  obtain rfl := Option.some.inj (globBig.symm.trans hg')
  have := var_lt hg' hvar
  omega
/-- A heap that meets the condition. -/
theorem door_met (os : Os) (args : Array Value) : laidMetH Tryz.prog laid7 ((World.laidAll Tryz.prog os laid7).forCall (fun _ _ => 0) ⟨#[], args, []⟩).memory := by
  rw [MakeChecks.laidMetH_plain _ _ _ (by kernel_rfl)]
  exact laidMet_laidAll _ (by kernel_rfl) (by kernel_rfl)
end Go.Proofs.YtjaongknagmfiaaGreatDoor
