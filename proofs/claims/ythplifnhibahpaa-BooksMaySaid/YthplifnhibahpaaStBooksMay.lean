/- BooksMay: the statement that is left when the walk is done: numbers, texts and lists alone. -/
import Derived.Test.YthplifnhibahpaaQ0
import Derived.Test.YthplifnhibahpaaQ28
namespace Go.Proofs.Ythplifnhibahpaa.booksMay
open Go.RowKit Go.Proofs.YthplifnhibahpaaW.PrintWords Go.Proofs.YthplifnhibahpaaW.PrintLast Go.Proofs.YthplifnhibahpaaW.PrintMore Go.Proofs.Ythplifnhibahpaa.Q
def Pure : Prop := ∀ (a0 : List S43) (a1_0 : Int) (a1_1 : Int) (a2_0 : Int) (a2_1 : Int) (a2_2 : Int) (a2_3 : Int), (a0.length ≤ maxLen ∧ ∀ x ∈ a0, (True ∧ ((Lit.int .i64 x.f1.f0).wf = true ∧ (Lit.int .i64 x.f1.f1).wf = true ∧ (Lit.int .i64 x.f1.f2).wf = true ∧ (Lit.int .i64 x.f1.f3).wf = true) ∧ (Lit.int .i64 x.f2).wf = true)) → (Lit.int .i64 a1_0).wf = true → (Lit.int .i64 a1_1).wf = true → (Lit.int .i64 a2_0).wf = true → (Lit.int .i64 a2_1).wf = true → (Lit.int .i64 a2_2).wf = true → (Lit.int .i64 a2_3).wf = true → ∃ k, sandglasslaw16_BooksMay.f k a0 a1_0 a1_1 a2_0 a2_1 a2_2 a2_3 = some true
end Go.Proofs.Ythplifnhibahpaa.booksMay
