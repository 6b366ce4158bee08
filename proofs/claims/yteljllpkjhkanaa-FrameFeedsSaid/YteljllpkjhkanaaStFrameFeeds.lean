/- FrameFeeds: the statement that is left when the walk is done: numbers, texts and lists alone. -/
import Derived.Test.YteljllpkjhkanaaQ15
namespace Go.Proofs.Yteljllpkjhkanaa.frameFeeds
open Go.RowKit Go.Proofs.YteljllpkjhkanaaW.PrintWords Go.Proofs.YteljllpkjhkanaaW.PrintLast Go.Proofs.YteljllpkjhkanaaW.PrintMore Go.Proofs.Yteljllpkjhkanaa.Q
def Pure : Prop := ∀ (a0 : List ByteArray), (a0.length ≤ maxLen ∧ ∀ x ∈ a0, x.size ≤ maxLen) → ∃ k, sandglasslaw20_FrameFeeds.f k a0 = some true
end Go.Proofs.Yteljllpkjhkanaa.frameFeeds
