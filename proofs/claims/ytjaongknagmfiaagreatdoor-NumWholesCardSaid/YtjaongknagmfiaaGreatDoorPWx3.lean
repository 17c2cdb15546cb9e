-- PRINTED by print.py (a twelfth state) out of the translation. Not trusted: Lean checks it.
import Derived.Test.YtjaongknagmfiaaGreatDoorPWx0
namespace Go.Proofs.YtjaongknagmfiaaGreatDoor.PW
open Go.RowKit Go.Proofs.YtjaongknagmfiaaGreatDoorW.PrintWords Go.Proofs.YtjaongknagmfiaaGreatDoorW.PrintLast Go.Proofs.YtjaongknagmfiaaGreatDoorW.PrintMore
attribute [local go_sem] max2_int min2_int max_two min_two max_three min_three max_four min_four   -- for this text's walks alone
set_option linter.unusedVariables false
set_option linter.unusedSimpArgs false

/-! ### emendref2_Decimal: function 52 -/
def emendref2_Decimal.f (a0 : Int) : Option (ByteArray) := if -9223372036854775808 ≤ a0 ∧ a0 ≤ 9223372036854775807 then some (B (Lib.itoa a0)) else none
theorem emendref2_Decimal.calls (a0 : Int) (r : ByteArray) (w : World) (h : emendref2_Decimal.f a0 = some r) : Calls Tryz.prog 52 #[.int .i64 a0] w fun e w' => e = .returned (.string r) ∧ Below w.heap.size w w' := by
  unfold emendref2_Decimal.f at h
  split at h
  · rename_i hb
    injection h with h
    subst h
    exact decimal_any a0 hb.1 hb.2 w
  · cases h

end Go.Proofs.YtjaongknagmfiaaGreatDoor.PW
