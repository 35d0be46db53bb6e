-- PRINTED by print.py (a twelfth state) out of the translation. Not trusted: Lean checks it.
import Derived.Test.YteocdfahhndfoaaDoorProg
import Derived.Below
import Derived.Deep.Draws
import Derived.Deep.AppendLies
import Derived.Maps.AppendAt
import Derived.OwnWalk
import Derived.Laws.BytesArg
import Derived.Laws.MakeOwn
import Derived.Laws.OwnMore
import Derived.Deep.OwnRows
import Derived.Tactics
import Derived.Lib.ConvBytes
import Derived.Laws.Slices
import Derived.WalkKit
import Derived.KernelRfl
import Derived.RowKit3
import Derived.Deep.LoopGhost
import Derived.Deep.QuietTactic
import Derived.BigQuiet
import Derived.WideLaws
import Derived.Deep.DeepCutAuto
import Derived.Deep.CutBlock
import Derived.Deep.RegionHeld3
import Derived.Laws.Rows
import Derived.Lib.AppendStr
import Derived.ArgAppend
import Derived.Laws.IdiomCopy
import Derived.OrdersHeld
import Derived.Laws.BitsLemmas
import Derived.RowKit
import Derived.Test.YteocdfahhndfoaaDoorWWords
import Derived.Test.YteocdfahhndfoaaDoorWLast
import Derived.Test.YteocdfahhndfoaaDoorWTab
import Derived.Test.YteocdfahhndfoaaDoorWFour
import Derived.Test.YteocdfahhndfoaaDoorWQPut
import Derived.Test.YteocdfahhndfoaaDoorWApart
import Derived.Test.YteocdfahhndfoaaDoorWArr
import Derived.Test.YteocdfahhndfoaaDoorWZeros
import Derived.Test.YteocdfahhndfoaaDoorWFoot
import Derived.Test.YteocdfahhndfoaaDoorWKept
import Derived.Test.YteocdfahhndfoaaDoorWShare
import Derived.Test.YteocdfahhndfoaaDoorWN
import Derived.Test.YteocdfahhndfoaaDoorWFootNe
import Derived.Test.YteocdfahhndfoaaDoorWAt
import Derived.Test.YteocdfahhndfoaaDoorWEqStruct
import Derived.Test.YteocdfahhndfoaaDoorWRepsOne
import Derived.Test.YteocdfahhndfoaaDoorWInv
import Derived.Test.YteocdfahhndfoaaDoorWInvWords
import Derived.Test.YteocdfahhndfoaaDoorWGuard
import Derived.Test.YteocdfahhndfoaaDoorWNEv
import Derived.Test.YteocdfahhndfoaaDoorWMore
namespace Go.Proofs.YteocdfahhndfoaaDoor.Print
open Go.RowKit Go.Proofs.YteocdfahhndfoaaDoorW.PrintWords Go.Proofs.YteocdfahhndfoaaDoorW.PrintLast Go.Proofs.YteocdfahhndfoaaDoorW.PrintMore
attribute [local go_sem] max2_int min2_int max_two min_two max_three min_three max_four min_four   -- for this text's walks alone
set_option linter.unusedVariables false
set_option linter.unusedSimpArgs false



def errW : Option Int → Value
  | none => .nilIface
  | some c => .iface 0 (.int .i64 c)
theorem errW_none : errW none = .nilIface := rfl
theorem errW_some (c : Int) : errW (some c) = .iface 0 (.int .i64 c) := rfl

-- the values' own types

end Go.Proofs.YteocdfahhndfoaaDoor.Print
