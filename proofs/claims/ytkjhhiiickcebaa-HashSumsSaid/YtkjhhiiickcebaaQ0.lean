-- Laid by wip/tools/hprint.py, a program of this repo, over the kit's print; not a text of print.sh.
import Derived.Test.YtkjhhiiickcebaaProg
import Derived.Below
import Derived.Deep.Draws
import Derived.Deep.AppendLies
import Derived.Maps.AppendAt
import Derived.OwnWalk
import Derived.Laws.BytesArg
import Derived.Laws.MakeOwn
import Derived.Laws.OwnMore
import Derived.Deep.OwnRows
import Derived.Tactics
import Derived.Lib.ConvBytes
import Derived.Laws.Slices
import Derived.WalkKit
import Derived.KernelRfl
import Derived.RowKit3
import Derived.Deep.LoopGhost
import Derived.Deep.QuietTactic
import Derived.BigQuiet
import Derived.WideLaws
import Derived.Deep.DeepCutAuto
import Derived.Deep.CutBlock
import Derived.Deep.RegionHeld3
import Derived.Laws.Rows
import Derived.Lib.AppendStr
import Derived.ArgAppend
import Derived.Laws.IdiomCopy
import Derived.OrdersHeld
import Derived.Laws.BitsLemmas
import Derived.RowKit
import Derived.Laws.EntriesVeiled
import Derived.Deep.RegionWith
import Derived.Laws.BitsAllLaws
import Derived.IntWalk
import Derived.Test.YtkjhhiiickcebaaZip
import Derived.Test.YtkjhhiiickcebaaWWords
import Derived.Test.YtkjhhiiickcebaaWLast
import Derived.Test.YtkjhhiiickcebaaWTab
import Derived.Test.YtkjhhiiickcebaaWFour
import Derived.Test.YtkjhhiiickcebaaWQPut
import Derived.Test.YtkjhhiiickcebaaWApart
import Derived.Test.YtkjhhiiickcebaaWArr
import Derived.Test.YtkjhhiiickcebaaWZeros
import Derived.Test.YtkjhhiiickcebaaWFoot
import Derived.Test.YtkjhhiiickcebaaWKept
import Derived.Test.YtkjhhiiickcebaaWShare
import Derived.Test.YtkjhhiiickcebaaWN
import Derived.Test.YtkjhhiiickcebaaWFootNe
import Derived.Test.YtkjhhiiickcebaaWAt
import Derived.Test.YtkjhhiiickcebaaWEqStruct
import Derived.Test.YtkjhhiiickcebaaWRepsOne
import Derived.Test.YtkjhhiiickcebaaWInv
import Derived.Test.YtkjhhiiickcebaaWInvWords
import Derived.Test.YtkjhhiiickcebaaWGuard
import Derived.Test.YtkjhhiiickcebaaWNEv
import Derived.Test.YtkjhhiiickcebaaWMore
namespace Go.Proofs.Ytkjhhiiickcebaa.Q
open Go.RowKit Go.Proofs.Ytkjhhiiickcebaa.Zip Go.Proofs.YtkjhhiiickcebaaW.PrintWords Go.Proofs.YtkjhhiiickcebaaW.PrintLast Go.Proofs.YtkjhhiiickcebaaW.PrintMore
attribute [local go_sem] max2_int min2_int max_two min_two max_three min_three max_four min_four   -- for this text's walks alone
set_option linter.unusedVariables false
set_option linter.unusedSimpArgs false



def errW : Option Int → Value
  | none => .nilIface
  | some c => .iface 0 (.int .i64 c)
theorem errW_none : errW none = .nilIface := rfl
theorem errW_some (c : Int) : errW (some c) = .iface 0 (.int .i64 c) := rfl

theorem info5 : (Try.prog.info? 5).map (fun i => (i.zero, i.size, i.bytes)) = some (some (.int .u8 0), 1, 1) := by kernel_rfl
-- the values' own types

end Go.Proofs.Ytkjhhiiickcebaa.Q
