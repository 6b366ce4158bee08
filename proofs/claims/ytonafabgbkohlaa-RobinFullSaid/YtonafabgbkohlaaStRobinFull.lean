/- RobinFull: the statement that is left when the walk is done: numbers, texts and lists alone. -/
import Derived.Test.YtonafabgbkohlaaQ60
namespace Go.Proofs.Ytonafabgbkohlaa.robinFull
open Go.RowKit Go.Proofs.YtonafabgbkohlaaW.PrintWords Go.Proofs.YtonafabgbkohlaaW.PrintLast Go.Proofs.YtonafabgbkohlaaW.PrintMore Go.Proofs.Ytonafabgbkohlaa.Q
def Pure : Prop := ∀ (a0 : Int) (a1 : Int), (Lit.int .u64 a0).wf = true → (Lit.int .i64 a1).wf = true → sandglasslaw05_RobinFull.f a0 a1 = some true
end Go.Proofs.Ytonafabgbkohlaa.robinFull
