/- HashSums: the statement that is left when the walk is done: numbers, texts and lists alone. -/
import Derived.Test.YtkjhhiiickcebaaQ19
namespace Go.Proofs.Ytkjhhiiickcebaa.hashSums
open Go.RowKit Go.Proofs.YtkjhhiiickcebaaW.PrintWords Go.Proofs.YtkjhhiiickcebaaW.PrintLast Go.Proofs.YtkjhhiiickcebaaW.PrintMore Go.Proofs.Ytkjhhiiickcebaa.Q
def Pure : Prop := ∀ (a0 : Int) (a1 : ByteArray) (a2_0 : Int) (a2_1 : Int), (Lit.int .u64 a0).wf = true → a1.size ≤ maxLen → (Lit.int .i64 a2_0).wf = true → (Lit.int .i64 a2_1).wf = true → ∃ k, sandglasslaw03_HashSums.f k a0 a1 a2_0 a2_1 = some true
end Go.Proofs.Ytkjhhiiickcebaa.hashSums
