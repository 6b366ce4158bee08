-- Words that print.sh laid for this seat, less those that nothing of this claim names: cut by wip/tools/hshake.py, a program of this repo; not a text of print.sh.
import Derived.Test.YtalcmlgkdkbbaaaWTab
/-! ### 56. Four, five, six operations that may come up next, in any order -/
namespace Go.Proofs.YtalcmlgkdkbbaaaW.PrintLast
section
variable {P : Program} {ops : Array Oper} {Q : Exit → Act → World → Prop} {md : Region.Mode} {S : World → Prop} {ds : List Nat} {T : Bool × List (List Nat × List Nat)}
end
end Go.Proofs.YtalcmlgkdkbbaaaW.PrintLast
