-- Words that print.sh laid for this seat, less those that nothing of this claim names: cut by wip/tools/hshake.py, a program of this repo; not a text of print.sh.
import Derived.Test.YtempbjcmhillgaaWInv
import Derived.Test.YtempbjcmhillgaaWFootNe
namespace Go.Proofs.YtempbjcmhillgaaW.PrintWords
open Go.RowKit
end Go.Proofs.YtempbjcmhillgaaW.PrintWords
namespace Go.Proofs.YtempbjcmhillgaaW.PrintLast
section
variable {ops : Array Oper} {a : Act} {o og : Oper} {g : Nat} {t : Tmp} {u : Bool}
end
end Go.Proofs.YtempbjcmhillgaaW.PrintLast
