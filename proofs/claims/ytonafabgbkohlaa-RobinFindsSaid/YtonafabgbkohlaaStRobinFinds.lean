/- RobinFinds: the statement that is left when the walk is done: numbers, texts and lists alone. -/
import Derived.Test.YtonafabgbkohlaaQ0
import Derived.Test.YtonafabgbkohlaaQ62
namespace Go.Proofs.Ytonafabgbkohlaa.robinFinds
open Go.RowKit Go.Proofs.YtonafabgbkohlaaW.PrintWords Go.Proofs.YtonafabgbkohlaaW.PrintLast Go.Proofs.YtonafabgbkohlaaW.PrintMore Go.Proofs.Ytonafabgbkohlaa.Q
def Pure : Prop := ∀ (a0 : Int) (a1 : List S35) (a2 : ByteArray), (Lit.int .u64 a0).wf = true → (a1.length ≤ maxLen ∧ ∀ x ∈ a1, ((Lit.int .i64 x.f0).wf = true ∧ x.f1.size ≤ maxLen ∧ (Lit.int .i64 x.f2).wf = true)) → a2.size ≤ maxLen → sandglasslaw05_RobinFinds.f a0 a1 a2 = some true
end Go.Proofs.Ytonafabgbkohlaa.robinFinds
