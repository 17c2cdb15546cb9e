-- PRINTED by print.py (a twelfth state) out of the translation. Not trusted: Lean checks it.
import Derived.Test.YtjaongknagmfiaaGreatDoorPTx0
import Derived.Test.YtjaongknagmfiaaGreatDoorPTx1
import Derived.Test.YtjaongknagmfiaaGreatDoorPTx2
namespace Go.Proofs.YtjaongknagmfiaaGreatDoor.PT
open Go.RowKit Go.Proofs.YtjaongknagmfiaaGreatDoorW.PrintWords Go.Proofs.YtjaongknagmfiaaGreatDoorW.PrintLast Go.Proofs.YtjaongknagmfiaaGreatDoorW.PrintMore
attribute [local go_sem] max2_int min2_int max_two min_two max_three min_three max_four min_four   -- for this text's walks alone
set_option linter.unusedVariables false
set_option linter.unusedSimpArgs false

end Go.Proofs.YtjaongknagmfiaaGreatDoor.PT
