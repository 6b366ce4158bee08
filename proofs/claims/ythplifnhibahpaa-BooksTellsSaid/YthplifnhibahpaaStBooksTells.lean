/- BooksTells: the statement that is left when the walk is done: numbers, texts and lists alone. -/
import Derived.Test.YthplifnhibahpaaQ0
import Derived.Test.YthplifnhibahpaaQ24
namespace Go.Proofs.Ythplifnhibahpaa.booksTells
open Go.RowKit Go.Proofs.YthplifnhibahpaaW.PrintWords Go.Proofs.YthplifnhibahpaaW.PrintLast Go.Proofs.YthplifnhibahpaaW.PrintMore Go.Proofs.Ythplifnhibahpaa.Q
def Pure : Prop := ∀ (a0 : List S43) (a1 : Int), (a0.length ≤ maxLen ∧ ∀ x ∈ a0, (True ∧ ((Lit.int .i64 x.f1.f0).wf = true ∧ (Lit.int .i64 x.f1.f1).wf = true ∧ (Lit.int .i64 x.f1.f2).wf = true ∧ (Lit.int .i64 x.f1.f3).wf = true) ∧ (Lit.int .i64 x.f2).wf = true)) → (Lit.int .i64 a1).wf = true → ∃ k, sandglasslaw16_BooksTells.f k a0 a1 = some true
end Go.Proofs.Ythplifnhibahpaa.booksTells
