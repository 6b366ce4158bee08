/- FrameJoins: the statement that is left when the walk is done: numbers, texts and lists alone. -/
import Derived.Test.YteljllpkjhkanaaQ17
namespace Go.Proofs.Yteljllpkjhkanaa.frameJoins
open Go.RowKit Go.Proofs.YteljllpkjhkanaaW.PrintWords Go.Proofs.YteljllpkjhkanaaW.PrintLast Go.Proofs.YteljllpkjhkanaaW.PrintMore Go.Proofs.Yteljllpkjhkanaa.Q
def Pure : Prop := ∀ (a0 : ByteArray) (a1 : ByteArray), a0.size ≤ maxLen → a1.size ≤ maxLen → ∃ k, sandglasslaw20_FrameJoins.f k a0 a1 = some true
end Go.Proofs.Yteljllpkjhkanaa.frameJoins
