-- PRINTED by print.py (a twelfth state) out of the translation. Not trusted: Lean checks it.
import Derived.Test.YtgbkeciimddpnaaDoorProg
import Derived.Below
import Derived.Deep.Draws
import Derived.Deep.AppendLies
import Derived.Maps.AppendAt
import Derived.OwnWalk
import Derived.Laws.BytesArg
import Derived.Laws.MakeOwn
import Derived.Laws.OwnMore
import Derived.Deep.OwnRows
import Derived.Tactics
import Derived.Lib.ConvBytes
import Derived.Laws.Slices
import Derived.WalkKit
import Derived.KernelRfl
import Derived.RowKit3
import Derived.Deep.LoopGhost
import Derived.Deep.QuietTactic
import Derived.BigQuiet
import Derived.WideLaws
import Derived.Deep.DeepCutAuto
import Derived.Deep.CutBlock
import Derived.Deep.RegionHeld3
import Derived.Laws.Rows
import Derived.Lib.AppendStr
import Derived.ArgAppend
import Derived.Laws.IdiomCopy
import Derived.OrdersHeld
import Derived.Laws.BitsLemmas
import Derived.RowKit
import Derived.Test.YtgbkeciimddpnaaDoorWWords
import Derived.Test.YtgbkeciimddpnaaDoorWLast
import Derived.Test.YtgbkeciimddpnaaDoorWTab
import Derived.Test.YtgbkeciimddpnaaDoorWFour
import Derived.Test.YtgbkeciimddpnaaDoorWQPut
import Derived.Test.YtgbkeciimddpnaaDoorWApart
import Derived.Test.YtgbkeciimddpnaaDoorWArr
import Derived.Test.YtgbkeciimddpnaaDoorWZeros
import Derived.Test.YtgbkeciimddpnaaDoorWFoot
import Derived.Test.YtgbkeciimddpnaaDoorWKept
import Derived.Test.YtgbkeciimddpnaaDoorWShare
import Derived.Test.YtgbkeciimddpnaaDoorWN
import Derived.Test.YtgbkeciimddpnaaDoorWFootNe
import Derived.Test.YtgbkeciimddpnaaDoorWAt
import Derived.Test.YtgbkeciimddpnaaDoorWEqStruct
import Derived.Test.YtgbkeciimddpnaaDoorWRepsOne
import Derived.Test.YtgbkeciimddpnaaDoorWInv
import Derived.Test.YtgbkeciimddpnaaDoorWInvWords
import Derived.Test.YtgbkeciimddpnaaDoorWGuard
import Derived.Test.YtgbkeciimddpnaaDoorWNEv
import Derived.Test.YtgbkeciimddpnaaDoorWMore
namespace Go.Proofs.YtgbkeciimddpnaaDoor.Print
open Go.RowKit Go.Proofs.YtgbkeciimddpnaaDoorW.PrintWords Go.Proofs.YtgbkeciimddpnaaDoorW.PrintLast Go.Proofs.YtgbkeciimddpnaaDoorW.PrintMore
attribute [local go_sem] max2_int min2_int max_two min_two max_three min_three max_four min_four   -- for this text's walks alone
set_option linter.unusedVariables false
set_option linter.unusedSimpArgs false



def errW : Option Int → Value
  | none => .nilIface
  | some c => .iface 0 (.int .i64 c)
theorem errW_none : errW none = .nilIface := rfl
theorem errW_some (c : Int) : errW (some c) = .iface 0 (.int .i64 c) := rfl

theorem info9 : (Tryd.prog.info? 9).map (fun i => (i.zero, i.size, i.bytes)) = some (some (.string ⟨#[]⟩), 1, 16) := by kernel_rfl
-- the values' own types

end Go.Proofs.YtgbkeciimddpnaaDoor.Print
