/- NumsBytes: the statement that is left when the walk is done: numbers, texts and lists alone. -/
import Derived.Test.YtbjnkhlepmocjaaQ20
namespace Go.Proofs.Ytbjnkhlepmocjaa.numsBytes
open Go.RowKit Go.Proofs.YtbjnkhlepmocjaaW.PrintWords Go.Proofs.YtbjnkhlepmocjaaW.PrintLast Go.Proofs.YtbjnkhlepmocjaaW.PrintMore Go.Proofs.Ytbjnkhlepmocjaa.Q
def Pure : Prop := ∀ (a0 : Int) (a1 : ByteArray) (a2_0 : Int) (a2_1 : Int), (Lit.int .u64 a0).wf = true → a1.size ≤ maxLen → (Lit.int .i64 a2_0).wf = true → (Lit.int .i64 a2_1).wf = true → ∃ k, sandglasslaw02_NumsBytes.f k a0 a1 a2_0 a2_1 = some true
end Go.Proofs.Ytbjnkhlepmocjaa.numsBytes
