/- PolicyReads: the statement that is left when the walk is done: numbers, texts and lists alone. -/
import Derived.Test.YtjhipnhnbnnodaaQ22
namespace Go.Proofs.Ytjhipnhnbnnodaa.policyReads
open Go.RowKit Go.Proofs.YtjhipnhnbnnodaaW.PrintWords Go.Proofs.YtjhipnhnbnnodaaW.PrintLast Go.Proofs.YtjhipnhnbnnodaaW.PrintMore Go.Proofs.Ytjhipnhnbnnodaa.Q
def Pure : Prop := ∀ (a0 : ByteArray), a0.size ≤ maxLen → ∃ k, sandglasslaw09_PolicyReads.f k a0 = some true
end Go.Proofs.Ytjhipnhnbnnodaa.policyReads
