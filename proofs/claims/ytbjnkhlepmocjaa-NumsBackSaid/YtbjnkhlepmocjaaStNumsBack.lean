/- NumsBack: the statement that is left when the walk is done: numbers, texts and lists alone. -/
import Derived.Test.YtbjnkhlepmocjaaQ24
namespace Go.Proofs.Ytbjnkhlepmocjaa.numsBack
open Go.RowKit Go.Proofs.YtbjnkhlepmocjaaW.PrintWords Go.Proofs.YtbjnkhlepmocjaaW.PrintLast Go.Proofs.YtbjnkhlepmocjaaW.PrintMore Go.Proofs.Ytbjnkhlepmocjaa.Q
def Pure : Prop := ∀ (a0 : Int) (a1 : Int) (a2_0 : ByteArray) (a2_1 : ByteArray), (Lit.int .u64 a0).wf = true → (Lit.int .i64 a1).wf = true → a2_0.size ≤ maxLen → a2_1.size ≤ maxLen → ∃ k, sandglasslaw02_NumsBack.f k a0 a1 a2_0 a2_1 = some true
end Go.Proofs.Ytbjnkhlepmocjaa.numsBack
