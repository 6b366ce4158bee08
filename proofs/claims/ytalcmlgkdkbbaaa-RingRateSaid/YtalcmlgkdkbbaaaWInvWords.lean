-- Words that print.sh laid for this seat, less those that nothing of this claim names: cut by wip/tools/hshake.py, a program of this repo; not a text of print.sh.
import Derived.Test.YtalcmlgkdkbbaaaWInv
import Derived.Test.YtalcmlgkdkbbaaaWFootNe
namespace Go.Proofs.YtalcmlgkdkbbaaaW.PrintWords
open Go.RowKit
end Go.Proofs.YtalcmlgkdkbbaaaW.PrintWords
namespace Go.Proofs.YtalcmlgkdkbbaaaW.PrintLast
section
variable {ops : Array Oper} {a : Act} {o og : Oper} {g : Nat} {t : Tmp} {u : Bool}
end
end Go.Proofs.YtalcmlgkdkbbaaaW.PrintLast
