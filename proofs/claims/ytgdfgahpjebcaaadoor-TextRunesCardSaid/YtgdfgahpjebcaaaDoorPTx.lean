-- PRINTED by print.py (a twelfth state) out of the translation. Not trusted: Lean checks it.
import Derived.Test.YtgdfgahpjebcaaaDoorPTx0
import Derived.Test.YtgdfgahpjebcaaaDoorPTx1
import Derived.Test.YtgdfgahpjebcaaaDoorPTx2
import Derived.Test.YtgdfgahpjebcaaaDoorPTx3
import Derived.Test.YtgdfgahpjebcaaaDoorPTx4
import Derived.Test.YtgdfgahpjebcaaaDoorPTx5
import Derived.Test.YtgdfgahpjebcaaaDoorPTx6
namespace Go.Proofs.YtgdfgahpjebcaaaDoor.PT
open Go.RowKit Go.Proofs.YtgdfgahpjebcaaaDoorW.PrintWords Go.Proofs.YtgdfgahpjebcaaaDoorW.PrintLast Go.Proofs.YtgdfgahpjebcaaaDoorW.PrintMore
attribute [local go_sem] max2_int min2_int max_two min_two max_three min_three max_four min_four   -- for this text's walks alone
set_option linter.unusedVariables false
set_option linter.unusedSimpArgs false

end Go.Proofs.YtgdfgahpjebcaaaDoor.PT
