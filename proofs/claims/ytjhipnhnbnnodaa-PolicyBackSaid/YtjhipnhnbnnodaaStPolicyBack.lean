/- PolicyBack: the statement that is left when the walk is done: numbers, texts and lists alone. -/
import Derived.Test.YtjhipnhnbnnodaaQ23
namespace Go.Proofs.Ytjhipnhnbnnodaa.policyBack
open Go.RowKit Go.Proofs.YtjhipnhnbnnodaaW.PrintWords Go.Proofs.YtjhipnhnbnnodaaW.PrintLast Go.Proofs.YtjhipnhnbnnodaaW.PrintMore Go.Proofs.Ytjhipnhnbnnodaa.Q
def Pure : Prop := ∀ (a0_0 : Int) (a0_1 : Int) (a0_2 : Int) (a0_3 : Int) (a1 : ByteArray), (Lit.int .i64 a0_0).wf = true → (Lit.int .i64 a0_1).wf = true → (Lit.int .i64 a0_2).wf = true → (Lit.int .i64 a0_3).wf = true → a1.size ≤ maxLen → ∃ k, sandglasslaw09_PolicyBack.f k a0_0 a0_1 a0_2 a0_3 a1 = some true
end Go.Proofs.Ytjhipnhnbnnodaa.policyBack
