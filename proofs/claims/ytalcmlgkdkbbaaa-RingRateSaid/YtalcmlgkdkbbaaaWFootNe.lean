-- Words that print.sh laid for this seat, less those that nothing of this claim names: cut by wip/tools/hshake.py, a program of this repo; not a text of print.sh.
import Derived.Test.YtalcmlgkdkbbaaaWN
/-! ### 52. A row that stays read whatever happens to a block (a set of blocks) doesn't lie there -/
namespace Go.Proofs.YtalcmlgkdkbbaaaW.PrintWords
open Go.RowKit
namespace Kd
section
variable {α : Type} {d : Kd α} {W : World} {g n : Nat} {S ok : Nat → Prop} {A : Option Addr} {ad : Addr} {xs : List α}
end
end Kd
end Go.Proofs.YtalcmlgkdkbbaaaW.PrintWords
