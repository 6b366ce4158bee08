/- Layer 11's live answers: true. -/
import Derived.Test.YtlnadabohaobnaaQ14
namespace Go.Proofs.Ytlnadabohaobnaa.La
open Go.Proofs.Ytlnadabohaobnaa.Q
theorem live_ok : sandglasslaw11_live.f 40 = some true := by decide +kernel
theorem live_up (n : Nat) : sandglasslaw11_live.f (40 + n) = some true := by
  induction n with
  | zero => exact live_ok
  | succ n ih => exact sandglasslaw11_live.mono (40 + n) _ ih
theorem live_at {n : Nat} (h : 40 ≤ n) : sandglasslaw11_live.f n = some true := by
  have := live_up (n - 40)
  rwa [show 40 + (n - 40) = n by omega] at this
end Go.Proofs.Ytlnadabohaobnaa.La
