-- PRINTED by print.py (a twelfth state) out of the translation. Not trusted: Lean checks it.
import Derived.Test.YtgdfgahpjebcaaaGreatDoorPTx0
import Derived.Test.YtgdfgahpjebcaaaGreatDoorPTx1
import Derived.Test.YtgdfgahpjebcaaaGreatDoorPTx2
import Derived.Test.YtgdfgahpjebcaaaGreatDoorPTx3
import Derived.Test.YtgdfgahpjebcaaaGreatDoorPTx4
import Derived.Test.YtgdfgahpjebcaaaGreatDoorPTx5
import Derived.Test.YtgdfgahpjebcaaaGreatDoorPTx6
import Derived.Test.YtgdfgahpjebcaaaGreatDoorPTx7
namespace Go.Proofs.YtgdfgahpjebcaaaGreatDoor.PT
open Go.RowKit Go.Proofs.YtgdfgahpjebcaaaGreatDoorW.PrintWords Go.Proofs.YtgdfgahpjebcaaaGreatDoorW.PrintLast Go.Proofs.YtgdfgahpjebcaaaGreatDoorW.PrintMore
attribute [local go_sem] max2_int min2_int max_two min_two max_three min_three max_four min_four   -- for this text's walks alone
set_option linter.unusedVariables false
set_option linter.unusedSimpArgs false

end Go.Proofs.YtgdfgahpjebcaaaGreatDoor.PT
