/- NumsTexts: the statement that is left when the walk is done: numbers, texts and lists alone. -/
import Derived.Test.YtbjnkhlepmocjaaQ23
namespace Go.Proofs.Ytbjnkhlepmocjaa.numsTexts
open Go.RowKit Go.Proofs.YtbjnkhlepmocjaaW.PrintWords Go.Proofs.YtbjnkhlepmocjaaW.PrintLast Go.Proofs.YtbjnkhlepmocjaaW.PrintMore Go.Proofs.Ytbjnkhlepmocjaa.Q
def Pure : Prop := ∀ (a0 : ByteArray) (a1 : Int), a0.size ≤ maxLen → (Lit.int .i64 a1).wf = true → ∃ k, sandglasslaw02_NumsTexts.f k a0 a1 = some true
end Go.Proofs.Ytbjnkhlepmocjaa.numsTexts
