/- NumsCaps: the statement that is left when the walk is done: numbers, texts and lists alone. -/
import Derived.Test.YtbjnkhlepmocjaaQ26
namespace Go.Proofs.Ytbjnkhlepmocjaa.numsCaps
open Go.RowKit Go.Proofs.YtbjnkhlepmocjaaW.PrintWords Go.Proofs.YtbjnkhlepmocjaaW.PrintLast Go.Proofs.YtbjnkhlepmocjaaW.PrintMore Go.Proofs.Ytbjnkhlepmocjaa.Q
def Pure : Prop := ∀ (a0 : Int) (a1 : Int) (a2_0 : Int) (a2_1 : Int) (a2_2 : Int), (Lit.int .u64 a0).wf = true → (Lit.int .u64 a1).wf = true → (Lit.int .u64 a2_0).wf = true → (Lit.int .u64 a2_1).wf = true → (Lit.int .u64 a2_2).wf = true → ∃ k, sandglasslaw02_NumsCaps.f k a0 a1 a2_0 a2_1 a2_2 = some true
end Go.Proofs.Ytbjnkhlepmocjaa.numsCaps
