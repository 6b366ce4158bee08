-- Laid by wip/tools/hprint.py, a program of this repo, over the kit's print; not a text of print.sh.
import Derived.Test.YtbjnkhlepmocjaaProg
import Derived.Below
import Derived.Deep.Draws
import Derived.Deep.AppendLies
import Derived.Maps.AppendAt
import Derived.OwnWalk
import Derived.Laws.BytesArg
import Derived.Laws.MakeOwn
import Derived.Laws.OwnMore
import Derived.Deep.OwnRows
import Derived.Tactics
import Derived.Lib.ConvBytes
import Derived.Laws.Slices
import Derived.WalkKit
import Derived.KernelRfl
import Derived.RowKit3
import Derived.Deep.LoopGhost
import Derived.Deep.QuietTactic
import Derived.BigQuiet
import Derived.WideLaws
import Derived.Deep.DeepCutAuto
import Derived.Deep.CutBlock
import Derived.Deep.RegionHeld3
import Derived.Laws.Rows
import Derived.Lib.AppendStr
import Derived.ArgAppend
import Derived.Laws.IdiomCopy
import Derived.OrdersHeld
import Derived.Laws.BitsLemmas
import Derived.RowKit
import Derived.Laws.EntriesVeiled
import Derived.Deep.RegionWith
import Derived.Laws.BitsAllLaws
import Derived.IntWalk
import Derived.Test.YtbjnkhlepmocjaaZip
import Derived.Test.YtbjnkhlepmocjaaWWords
import Derived.Test.YtbjnkhlepmocjaaWLast
import Derived.Test.YtbjnkhlepmocjaaWTab
import Derived.Test.YtbjnkhlepmocjaaWFour
import Derived.Test.YtbjnkhlepmocjaaWQPut
import Derived.Test.YtbjnkhlepmocjaaWApart
import Derived.Test.YtbjnkhlepmocjaaWArr
import Derived.Test.YtbjnkhlepmocjaaWZeros
import Derived.Test.YtbjnkhlepmocjaaWFoot
import Derived.Test.YtbjnkhlepmocjaaWKept
import Derived.Test.YtbjnkhlepmocjaaWShare
import Derived.Test.YtbjnkhlepmocjaaWN
import Derived.Test.YtbjnkhlepmocjaaWFootNe
import Derived.Test.YtbjnkhlepmocjaaWAt
import Derived.Test.YtbjnkhlepmocjaaWEqStruct
import Derived.Test.YtbjnkhlepmocjaaWRepsOne
import Derived.Test.YtbjnkhlepmocjaaWInv
import Derived.Test.YtbjnkhlepmocjaaWInvWords
import Derived.Test.YtbjnkhlepmocjaaWGuard
import Derived.Test.YtbjnkhlepmocjaaWNEv
import Derived.Test.YtbjnkhlepmocjaaWMore
namespace Go.Proofs.Ytbjnkhlepmocjaa.Q
open Go.RowKit Go.Proofs.Ytbjnkhlepmocjaa.Zip Go.Proofs.YtbjnkhlepmocjaaW.PrintWords Go.Proofs.YtbjnkhlepmocjaaW.PrintLast Go.Proofs.YtbjnkhlepmocjaaW.PrintMore
attribute [local go_sem] max2_int min2_int max_two min_two max_three min_three max_four min_four   -- for this text's walks alone
set_option linter.unusedVariables false
set_option linter.unusedSimpArgs false



def errW : Option Int → Value
  | none => .nilIface
  | some c => .iface 0 (.int .i64 c)
theorem errW_none : errW none = .nilIface := rfl
theorem errW_some (c : Int) : errW (some c) = .iface 0 (.int .i64 c) := rfl

theorem info5 : (Try.prog.info? 5).map (fun i => (i.zero, i.size, i.bytes)) = some (some (.int .u8 0), 1, 1) := by kernel_rfl
-- the values' own types

end Go.Proofs.Ytbjnkhlepmocjaa.Q
