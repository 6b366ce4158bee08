/- RobinNil: the statement that is left when the walk is done: numbers, texts and lists alone. -/
import Derived.Test.YtonafabgbkohlaaQ38
namespace Go.Proofs.Ytonafabgbkohlaa.robinNil
open Go.RowKit Go.Proofs.YtonafabgbkohlaaW.PrintWords Go.Proofs.YtonafabgbkohlaaW.PrintLast Go.Proofs.YtonafabgbkohlaaW.PrintMore Go.Proofs.Ytonafabgbkohlaa.Q
def Pure : Prop := ∀ (a0 : ByteArray) (a1 : Int), a0.size ≤ maxLen → (Lit.int .i64 a1).wf = true → sandglasslaw05_RobinNil.f a0 a1 = some true
end Go.Proofs.Ytonafabgbkohlaa.robinNil
