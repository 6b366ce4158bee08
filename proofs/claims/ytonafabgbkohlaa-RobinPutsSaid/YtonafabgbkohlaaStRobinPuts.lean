/- RobinPuts: the statement that is left when the walk is done: numbers, texts and lists alone. -/
import Derived.Test.YtonafabgbkohlaaQ0
import Derived.Test.YtonafabgbkohlaaQ61
namespace Go.Proofs.Ytonafabgbkohlaa.robinPuts
open Go.RowKit Go.Proofs.YtonafabgbkohlaaW.PrintWords Go.Proofs.YtonafabgbkohlaaW.PrintLast Go.Proofs.YtonafabgbkohlaaW.PrintMore Go.Proofs.Ytonafabgbkohlaa.Q
def Pure : Prop := ∀ (a0 : Int) (a1 : List S35) (a2_0_0 : Int) (a2_0_1 : ByteArray) (a2_0_2 : Int) (a2_1_0 : Int) (a2_1_1 : ByteArray) (a2_1_2 : Int), (Lit.int .u64 a0).wf = true → (a1.length ≤ maxLen ∧ ∀ x ∈ a1, ((Lit.int .i64 x.f0).wf = true ∧ x.f1.size ≤ maxLen ∧ (Lit.int .i64 x.f2).wf = true)) → (Lit.int .i64 a2_0_0).wf = true → a2_0_1.size ≤ maxLen → (Lit.int .i64 a2_0_2).wf = true → (Lit.int .i64 a2_1_0).wf = true → a2_1_1.size ≤ maxLen → (Lit.int .i64 a2_1_2).wf = true → sandglasslaw05_RobinPuts.f a0 a1 a2_0_0 a2_0_1 a2_0_2 a2_1_0 a2_1_1 a2_1_2 = some true
end Go.Proofs.Ytonafabgbkohlaa.robinPuts
