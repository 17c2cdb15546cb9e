-- PRINTED by print.py (a twelfth state) out of the translation. Not trusted: Lean checks it.
import Derived.Test.YtjaongknagmfiaaDoorProg
import Derived.Below
import Derived.Deep.Draws
import Derived.Deep.AppendLies
import Derived.Maps.AppendAt
import Derived.OwnWalk
import Derived.Laws.BytesArg
import Derived.Laws.MakeOwn
import Derived.Laws.OwnMore
import Derived.Deep.OwnRows
import Derived.Tactics
import Derived.Lib.ConvBytes
import Derived.Laws.Slices
import Derived.WalkKit
import Derived.KernelRfl
import Derived.RowKit3
import Derived.Deep.LoopGhost
import Derived.Deep.QuietTactic
import Derived.BigQuiet
import Derived.WideLaws
import Derived.Deep.DeepCutAuto
import Derived.Deep.CutBlock
import Derived.Deep.RegionHeld3
import Derived.Laws.Rows
import Derived.Lib.AppendStr
import Derived.ArgAppend
import Derived.Laws.IdiomCopy
import Derived.OrdersHeld
import Derived.Laws.BitsLemmas
import Derived.RowKit
import Derived.Test.YtjaongknagmfiaaDoorNp
import Derived.Test.YtjaongknagmfiaaDoorNr
import Derived.Test.YtjaongknagmfiaaDoorWWords
import Derived.Test.YtjaongknagmfiaaDoorWLast
import Derived.Test.YtjaongknagmfiaaDoorWTab
import Derived.Test.YtjaongknagmfiaaDoorWFour
import Derived.Test.YtjaongknagmfiaaDoorWQPut
import Derived.Test.YtjaongknagmfiaaDoorWApart
import Derived.Test.YtjaongknagmfiaaDoorWArr
import Derived.Test.YtjaongknagmfiaaDoorWZeros
import Derived.Test.YtjaongknagmfiaaDoorWFoot
import Derived.Test.YtjaongknagmfiaaDoorWKept
import Derived.Test.YtjaongknagmfiaaDoorWShare
import Derived.Test.YtjaongknagmfiaaDoorWN
import Derived.Test.YtjaongknagmfiaaDoorWFootNe
import Derived.Test.YtjaongknagmfiaaDoorWAt
import Derived.Test.YtjaongknagmfiaaDoorWEqStruct
import Derived.Test.YtjaongknagmfiaaDoorWRepsOne
import Derived.Test.YtjaongknagmfiaaDoorWNEv
import Derived.Test.YtjaongknagmfiaaDoorWMore
namespace Go.Proofs.YtjaongknagmfiaaDoor.PS
open Go.RowKit Go.Proofs.YtjaongknagmfiaaDoorW.PrintWords Go.Proofs.YtjaongknagmfiaaDoorW.PrintLast Go.Proofs.YtjaongknagmfiaaDoorW.PrintMore
attribute [local go_sem] max2_int min2_int max_two min_two max_three min_three max_four min_four   -- for this text's walks alone
set_option linter.unusedVariables false
set_option linter.unusedSimpArgs false



def errW : Option Int → Value
  | none => .nilIface
  | some c => .iface 0 (.int .i64 c)
theorem errW_none : errW none = .nilIface := rfl
theorem errW_some (c : Int) : errW (some c) = .iface 0 (.int .i64 c) := rfl

theorem info5 : (Tryd.prog.info? 5).map (fun i => (i.zero, i.size, i.bytes)) = some (some (.int .u8 0), 1, 1) := by kernel_rfl
-- the values' own types

end Go.Proofs.YtjaongknagmfiaaDoor.PS
