/- HashSeeds: the statement that is left when the walk is done: numbers, texts and lists alone. -/
import Derived.Test.YtkjhhiiickcebaaQ20
namespace Go.Proofs.Ytkjhhiiickcebaa.hashSeeds
open Go.RowKit Go.Proofs.YtkjhhiiickcebaaW.PrintWords Go.Proofs.YtkjhhiiickcebaaW.PrintLast Go.Proofs.YtkjhhiiickcebaaW.PrintMore Go.Proofs.Ytkjhhiiickcebaa.Q
def Pure : Prop := ∀ (a0 : ByteArray) (a1_0 : Int) (a1_1 : Int) (a2_0 : Int) (a2_1 : Int), a0.size ≤ maxLen → (Lit.int .u64 a1_0).wf = true → (Lit.int .u64 a1_1).wf = true → (Lit.int .i64 a2_0).wf = true → (Lit.int .i64 a2_1).wf = true → ∃ k, sandglasslaw03_HashSeeds.f k a0 a1_0 a1_1 a2_0 a2_1 = some true
end Go.Proofs.Ytkjhhiiickcebaa.hashSeeds
