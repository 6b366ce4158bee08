/- ExactRate: the statement that is left when the walk is done: numbers, texts and lists alone. -/
import Derived.Test.YtempbjcmhillgaaQ0
import Derived.Test.YtempbjcmhillgaaQ30
namespace Go.Proofs.Ytempbjcmhillgaa.exactRate
open Go.RowKit Go.Proofs.YtempbjcmhillgaaW.PrintWords Go.Proofs.YtempbjcmhillgaaW.PrintLast Go.Proofs.YtempbjcmhillgaaW.PrintMore Go.Proofs.Ytempbjcmhillgaa.Q
def Pure : Prop := ∀ (a0_0 : Int) (a0_1 : Int) (a0_2 : Int) (a0_3 : Int) (a1 : List S45), (Lit.int .i64 a0_0).wf = true → (Lit.int .i64 a0_1).wf = true → (Lit.int .i64 a0_2).wf = true → (Lit.int .i64 a0_3).wf = true → (a1.length ≤ maxLen ∧ ∀ x ∈ a1, ((Lit.int .i64 x.f0).wf = true ∧ (Lit.int .i64 x.f1).wf = true)) → ∃ k, sandglasslaw13_ExactRate.f k a0_0 a0_1 a0_2 a0_3 a1 = some true
end Go.Proofs.Ytempbjcmhillgaa.exactRate
