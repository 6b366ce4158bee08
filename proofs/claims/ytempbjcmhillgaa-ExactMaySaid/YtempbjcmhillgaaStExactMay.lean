/- ExactMay: the statement that is left when the walk is done: numbers, texts and lists alone. -/
import Derived.Test.YtempbjcmhillgaaQ0
import Derived.Test.YtempbjcmhillgaaQ28
namespace Go.Proofs.Ytempbjcmhillgaa.exactMay
open Go.RowKit Go.Proofs.YtempbjcmhillgaaW.PrintWords Go.Proofs.YtempbjcmhillgaaW.PrintLast Go.Proofs.YtempbjcmhillgaaW.PrintMore Go.Proofs.Ytempbjcmhillgaa.Q
def Pure : Prop := ∀ (a0_0 : Int) (a0_1 : Int) (a0_2 : Int) (a0_3 : Int) (a1_0 : Int) (a1_1 : Int) (a1_2 : List Int) (a1_3 : List S50) (a2_0 : Int) (a2_1 : Int), (Lit.int .i64 a0_0).wf = true → (Lit.int .i64 a0_1).wf = true → (Lit.int .i64 a0_2).wf = true → (Lit.int .i64 a0_3).wf = true → (Lit.int .i64 a1_0).wf = true → (Lit.int .i64 a1_1).wf = true → (a1_2.length ≤ maxLen ∧ ∀ x ∈ a1_2, (Lit.int .i64 x).wf = true) → (a1_3.length ≤ maxLen ∧ ∀ x ∈ a1_3, ((Lit.int .i64 x.f0).wf = true ∧ (Lit.int .i64 x.f1).wf = true)) → (Lit.int .i64 a2_0).wf = true → (Lit.int .i64 a2_1).wf = true → ∃ k, sandglasslaw13_ExactMay.f k a0_0 a0_1 a0_2 a0_3 a1_0 a1_1 a1_2 a1_3 a2_0 a2_1 = some true
end Go.Proofs.Ytempbjcmhillgaa.exactMay
