/- HashNames: the statement that is left when the walk is done: numbers, texts and lists alone. -/
import Derived.Test.YtkjhhiiickcebaaQ21
namespace Go.Proofs.Ytkjhhiiickcebaa.hashNames
open Go.RowKit Go.Proofs.YtkjhhiiickcebaaW.PrintWords Go.Proofs.YtkjhhiiickcebaaW.PrintLast Go.Proofs.YtkjhhiiickcebaaW.PrintMore Go.Proofs.Ytkjhhiiickcebaa.Q
def Pure : Prop := ∀ (a0 : Int) (a1_0 : Int) (a1_1 : Int) (a2_0 : ByteArray) (a2_1 : ByteArray), (Lit.int .u64 a0).wf = true → (Lit.int .i64 a1_0).wf = true → (Lit.int .i64 a1_1).wf = true → a2_0.size ≤ maxLen → a2_1.size ≤ maxLen → ∃ k, sandglasslaw03_HashNames.f k a0 a1_0 a1_1 a2_0 a2_1 = some true
end Go.Proofs.Ytkjhhiiickcebaa.hashNames
