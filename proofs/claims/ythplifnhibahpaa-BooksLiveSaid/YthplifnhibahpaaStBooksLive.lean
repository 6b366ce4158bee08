/- BooksLive: the statement that is left when the walk is done: numbers, texts and lists alone. -/
import Derived.Test.YthplifnhibahpaaQ0
import Derived.Test.YthplifnhibahpaaQ30
namespace Go.Proofs.Ythplifnhibahpaa.booksLive
open Go.RowKit Go.Proofs.YthplifnhibahpaaW.PrintWords Go.Proofs.YthplifnhibahpaaW.PrintLast Go.Proofs.YthplifnhibahpaaW.PrintMore Go.Proofs.Ythplifnhibahpaa.Q
def Pure : Prop := ∀ (a0 : List Int) (a1 : List S25), (a0.length ≤ maxLen ∧ ∀ x ∈ a0, (Lit.int .i64 x).wf = true) → (a1.length ≤ maxLen ∧ ∀ x ∈ a1, ((Lit.int .i64 x.f0).wf = true ∧ (Lit.int .i64 x.f1).wf = true ∧ (Lit.int .i64 x.f2).wf = true ∧ (Lit.int .i64 x.f3).wf = true)) → ∃ k, sandglasslaw16_BooksLive.f k a0 a1 = some true
end Go.Proofs.Ythplifnhibahpaa.booksLive
