/- HashHomes: the statement that is left when the walk is done: numbers, texts and lists alone. -/
import Derived.Test.YtkjhhiiickcebaaQ10
namespace Go.Proofs.Ytkjhhiiickcebaa.hashHomes
open Go.RowKit Go.Proofs.YtkjhhiiickcebaaW.PrintWords Go.Proofs.YtkjhhiiickcebaaW.PrintLast Go.Proofs.YtkjhhiiickcebaaW.PrintMore Go.Proofs.Ytkjhhiiickcebaa.Q
def Pure : Prop := ∀ (a0 : Int) (a1 : Int), (Lit.int .u64 a0).wf = true → (Lit.int .i64 a1).wf = true → ∃ k, sandglasslaw03_HashHomes.f k a0 a1 = some true
end Go.Proofs.Ytkjhhiiickcebaa.hashHomes
