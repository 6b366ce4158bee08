/- HashBack: the statement that is left when the walk is done: numbers, texts and lists alone. -/
import Derived.Test.YtkjhhiiickcebaaQ8
namespace Go.Proofs.Ytkjhhiiickcebaa.hashBack
open Go.RowKit Go.Proofs.YtkjhhiiickcebaaW.PrintWords Go.Proofs.YtkjhhiiickcebaaW.PrintLast Go.Proofs.YtkjhhiiickcebaaW.PrintMore Go.Proofs.Ytkjhhiiickcebaa.Q
def Pure : Prop := ∀ (a0 : Int) (a1 : Int), (Lit.int .u64 a0).wf = true → (Lit.int .u64 a1).wf = true → ∃ k, sandglasslaw03_HashBack.f k a0 a1 = some true
end Go.Proofs.Ytkjhhiiickcebaa.hashBack
