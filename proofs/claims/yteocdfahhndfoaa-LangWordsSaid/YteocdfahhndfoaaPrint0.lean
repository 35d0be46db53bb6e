-- PRINTED by print.py (a twelfth state) out of the translation. Not trusted: Lean checks it.
import Derived.Test.YteocdfahhndfoaaProg
import Derived.Below
import Derived.Deep.Draws
import Derived.Deep.AppendLies
import Derived.Maps.AppendAt
import Derived.OwnWalk
import Derived.Laws.BytesArg
import Derived.Laws.MakeOwn
import Derived.Laws.OwnMore
import Derived.Deep.OwnRows
import Derived.Tactics
import Derived.Lib.ConvBytes
import Derived.Laws.Slices
import Derived.WalkKit
import Derived.KernelRfl
import Derived.RowKit3
import Derived.Deep.LoopGhost
import Derived.Deep.QuietTactic
import Derived.BigQuiet
import Derived.WideLaws
import Derived.Deep.DeepCutAuto
import Derived.Deep.CutBlock
import Derived.Deep.RegionHeld3
import Derived.Laws.Rows
import Derived.Lib.AppendStr
import Derived.ArgAppend
import Derived.Laws.IdiomCopy
import Derived.OrdersHeld
import Derived.Laws.BitsLemmas
import Derived.RowKit
import Derived.Test.YteocdfahhndfoaaWWords
import Derived.Test.YteocdfahhndfoaaWLast
import Derived.Test.YteocdfahhndfoaaWTab
import Derived.Test.YteocdfahhndfoaaWFour
import Derived.Test.YteocdfahhndfoaaWQPut
import Derived.Test.YteocdfahhndfoaaWApart
import Derived.Test.YteocdfahhndfoaaWArr
import Derived.Test.YteocdfahhndfoaaWZeros
import Derived.Test.YteocdfahhndfoaaWFoot
import Derived.Test.YteocdfahhndfoaaWKept
import Derived.Test.YteocdfahhndfoaaWShare
import Derived.Test.YteocdfahhndfoaaWN
import Derived.Test.YteocdfahhndfoaaWFootNe
import Derived.Test.YteocdfahhndfoaaWAt
import Derived.Test.YteocdfahhndfoaaWEqStruct
import Derived.Test.YteocdfahhndfoaaWRepsOne
import Derived.Test.YteocdfahhndfoaaWInv
import Derived.Test.YteocdfahhndfoaaWInvWords
import Derived.Test.YteocdfahhndfoaaWGuard
import Derived.Test.YteocdfahhndfoaaWNEv
import Derived.Test.YteocdfahhndfoaaWMore
namespace Go.Proofs.Yteocdfahhndfoaa.Print
open Go.RowKit Go.Proofs.YteocdfahhndfoaaW.PrintWords Go.Proofs.YteocdfahhndfoaaW.PrintLast Go.Proofs.YteocdfahhndfoaaW.PrintMore
attribute [local go_sem] max2_int min2_int max_two min_two max_three min_three max_four min_four   -- for this text's walks alone
set_option linter.unusedVariables false
set_option linter.unusedSimpArgs false



def errW : Option Int → Value
  | none => .nilIface
  | some c => .iface 0 (.int .i64 c)
theorem errW_none : errW none = .nilIface := rfl
theorem errW_some (c : Int) : errW (some c) = .iface 0 (.int .i64 c) := rfl

theorem info9 : (Try.prog.info? 9).map (fun i => (i.zero, i.size, i.bytes)) = some (some (.string ⟨#[]⟩), 1, 16) := by kernel_rfl
-- the values' own types

end Go.Proofs.Yteocdfahhndfoaa.Print
