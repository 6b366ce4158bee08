/- FrameCuts: the statement that is left when the walk is done: numbers, texts and lists alone. -/
import Derived.Test.YteljllpkjhkanaaQ16
namespace Go.Proofs.Yteljllpkjhkanaa.frameCuts
open Go.RowKit Go.Proofs.YteljllpkjhkanaaW.PrintWords Go.Proofs.YteljllpkjhkanaaW.PrintLast Go.Proofs.YteljllpkjhkanaaW.PrintMore Go.Proofs.Yteljllpkjhkanaa.Q
def Pure : Prop := ∀ (a0 : ByteArray) (a1 : List Int), a0.size ≤ maxLen → (a1.length ≤ maxLen ∧ ∀ x ∈ a1, (Lit.int .i64 x).wf = true) → ∃ k, sandglasslaw20_FrameCuts.f k a0 a1 = some true
end Go.Proofs.Yteljllpkjhkanaa.frameCuts
