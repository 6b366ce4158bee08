/-
  No cell of these rows narrows 'for every input' (looked for: loops, veiled, ifaces, maps, wideKeys, modest, calm, conditions, laid).
  DERIVED. THE GIVEN ROWS OF THIS SEAT. 5 by the template 'for every input the law returns true; each argument reads behind the call as it read before'; 0 by the template 'total and deterministic' (their statements: YtpeljhmbaibjcaaTotals.lean).
  GIVEN WITH THE SEED: the statements are not yours to turn. If you find one false, say at which input.
  Laid BY PROGRAM, IN A SANDBOX (cutbox-rows.mjs): the forced cells as the released guide's own fill.sh prints them over the translation f589f09c6af20fcd… (all of the seat's roots in one cut). By AI agents, Wed Nov 11 2026. No macro, syntax, notation, axiom, sorry.
-/
import Derived.Test.YtpeljhmbaibjcaaChecked
import GoSem.Claim
import GoSem.ClaimJoined
import GoSem.ClaimMapViews
import Derived.JoinedTies
import Derived.KernelRfl
namespace Go.Proofs.Ytpeljhmbaibjcaa
/- THE CELL 'sum', in the pinned program and in every row, IS THE sha256 OF THE DUMP (.gsa) THAT YtpeljhmbaibjcaaProg.lean LOADS. Nothing in Lean hashes anything: it is a label: what it is worth is what the hold of that sum in a sandbox is worth. -/
noncomputable def Try.pinned : Pinned := { name := "ytpeljhmbaibjcaa", sum := "f589f09c6af20fcd7f3212473729920aaa027eb1d4935888c3b13e6832e79d48", checked := Try.checked }
namespace Rows
def none {H : Type} : Left H := { results := [], args := [] }

/-- 'sandglasslaw10.GcraAsks': WHATEVER THE INPUT: true; the input reads as it did. -/
def gcraAsksSpec : ChangeSpec := { name := "gcraAsks", fn := fun _ => fun
  | [d1, d2, d3] => { results := [.lit (.bool true)], args := [d1, d2, d3] }
  | _ => none }
def gcraAsksRow : OpenClaim := { program := "ytpeljhmbaibjcaa", sum := "f589f09c6af20fcd7f3212473729920aaa027eb1d4935888c3b13e6832e79d48", func := "sandglass/sandglasslaw10.GcraAsks", spec := "gcraAsks", unfollowed := true, recurses := true, apart := false }
def GcraAsksSaid : Prop := gcraAsksRow.holds Try.pinned (OpenSpec.ofChange gcraAsksSpec)

/-- ITS FALSE NEIGHBOUR: 'it returns false'. Refute it at one input. -/
def gcraAsksWrong : ChangeSpec := { name := "gcraAsks", fn := fun _ => fun
  | [d1, d2, d3] => { results := [.lit (.bool false)], args := [d1, d2, d3] }
  | _ => none }
def GcraAsksWrongFalsely : Prop := gcraAsksRow.holds Try.pinned (OpenSpec.ofChange gcraAsksWrong)

/-- 'sandglasslaw10.GcraMay': WHATEVER THE INPUT: true; the input reads as it did. -/
def gcraMaySpec : ChangeSpec := { name := "gcraMay", fn := fun _ => fun
  | [d1, d2, d3] => { results := [.lit (.bool true)], args := [d1, d2, d3] }
  | _ => none }
def gcraMayRow : OpenClaim := { program := "ytpeljhmbaibjcaa", sum := "f589f09c6af20fcd7f3212473729920aaa027eb1d4935888c3b13e6832e79d48", func := "sandglass/sandglasslaw10.GcraMay", spec := "gcraMay", unfollowed := true, recurses := true, apart := false }
def GcraMaySaid : Prop := gcraMayRow.holds Try.pinned (OpenSpec.ofChange gcraMaySpec)

/-- ITS FALSE NEIGHBOUR: 'it returns false'. Refute it at one input. -/
def gcraMayWrong : ChangeSpec := { name := "gcraMay", fn := fun _ => fun
  | [d1, d2, d3] => { results := [.lit (.bool false)], args := [d1, d2, d3] }
  | _ => none }
def GcraMayWrongFalsely : Prop := gcraMayRow.holds Try.pinned (OpenSpec.ofChange gcraMayWrong)

/-- 'sandglasslaw10.GcraEnds': WHATEVER THE INPUT: true; the input reads as it did. -/
def gcraEndsSpec : ChangeSpec := { name := "gcraEnds", fn := fun _ => fun
  | [d1, d2, d3] => { results := [.lit (.bool true)], args := [d1, d2, d3] }
  | _ => none }
def gcraEndsRow : OpenClaim := { program := "ytpeljhmbaibjcaa", sum := "f589f09c6af20fcd7f3212473729920aaa027eb1d4935888c3b13e6832e79d48", func := "sandglass/sandglasslaw10.GcraEnds", spec := "gcraEnds", unfollowed := true, recurses := true, apart := false }
def GcraEndsSaid : Prop := gcraEndsRow.holds Try.pinned (OpenSpec.ofChange gcraEndsSpec)

/-- ITS FALSE NEIGHBOUR: 'it returns false'. Refute it at one input. -/
def gcraEndsWrong : ChangeSpec := { name := "gcraEnds", fn := fun _ => fun
  | [d1, d2, d3] => { results := [.lit (.bool false)], args := [d1, d2, d3] }
  | _ => none }
def GcraEndsWrongFalsely : Prop := gcraEndsRow.holds Try.pinned (OpenSpec.ofChange gcraEndsWrong)

/-- 'sandglasslaw10.GcraRate': WHATEVER THE INPUT: true; the input reads as it did. -/
def gcraRateSpec : ChangeSpec := { name := "gcraRate", fn := fun _ => fun
  | [d1, d2] => { results := [.lit (.bool true)], args := [d1, d2] }
  | _ => none }
def gcraRateRow : OpenClaim := { program := "ytpeljhmbaibjcaa", sum := "f589f09c6af20fcd7f3212473729920aaa027eb1d4935888c3b13e6832e79d48", func := "sandglass/sandglasslaw10.GcraRate", spec := "gcraRate", unfollowed := true, recurses := true, apart := false }
def GcraRateSaid : Prop := gcraRateRow.holds Try.pinned (OpenSpec.ofChange gcraRateSpec)

/-- ITS FALSE NEIGHBOUR: 'it returns false'. Refute it at one input. -/
def gcraRateWrong : ChangeSpec := { name := "gcraRate", fn := fun _ => fun
  | [d1, d2] => { results := [.lit (.bool false)], args := [d1, d2] }
  | _ => none }
def GcraRateWrongFalsely : Prop := gcraRateRow.holds Try.pinned (OpenSpec.ofChange gcraRateWrong)

/-- 'sandglasslaw10.GcraParts': WHATEVER THE INPUT: true; the input reads as it did. -/
def gcraPartsSpec : ChangeSpec := { name := "gcraParts", fn := fun _ => fun
  | [d1, d2, d3] => { results := [.lit (.bool true)], args := [d1, d2, d3] }
  | _ => none }
def gcraPartsRow : OpenClaim := { program := "ytpeljhmbaibjcaa", sum := "f589f09c6af20fcd7f3212473729920aaa027eb1d4935888c3b13e6832e79d48", func := "sandglass/sandglasslaw10.GcraParts", spec := "gcraParts", unfollowed := true, recurses := true, apart := false }
def GcraPartsSaid : Prop := gcraPartsRow.holds Try.pinned (OpenSpec.ofChange gcraPartsSpec)

/-- ITS FALSE NEIGHBOUR: 'it returns false'. Refute it at one input. -/
def gcraPartsWrong : ChangeSpec := { name := "gcraParts", fn := fun _ => fun
  | [d1, d2, d3] => { results := [.lit (.bool false)], args := [d1, d2, d3] }
  | _ => none }
def GcraPartsWrongFalsely : Prop := gcraPartsRow.holds Try.pinned (OpenSpec.ofChange gcraPartsWrong)

/- THE SECOND FORM. 'bulk': how many values and letters a reading holds, each counted each time it is reached (what is shared counts as often as it is met; a slice's spare places count too). A statement '..UptoSaid' is the law's where the arguments, and the package variables that the reading takes, are together of bulk at most 1048576: NARROWER than '..Said'. Prove '..Said' where nothing that the law and all that it calls make is longer than what came in: it says more and counts as full. Else prove '..UptoSaid'. A law counts once. -/
mutual
def uptoBulk {H : Type} : DataW H → Nat
  | .lit (.string bytes) => bytes.length + 1
  | .lit _ => 1
  | .nil => 1
  | .ptr d => uptoBulk d + 1
  | .slice elems spare => uptoBulkAll elems + uptoBulkAll spare + 1
  | .agg parts => uptoBulkAll parts + 1
  | .iface _ d => uptoBulk d + 1
  | .map entries => uptoBulkEntries entries + 1
  | .held _ => 1
def uptoBulkAll {H : Type} : List (DataW H) → Nat
  | [] => 0
  | d :: r => uptoBulk d + uptoBulkAll r
def uptoBulkEntries {H : Type} : List (Lit × DataW H) → Nat
  | [] => 0
  | x :: r => uptoBulkEntry x + uptoBulkEntries r
def uptoBulkEntry {H : Type} : Lit × DataW H → Nat
  | (.string bytes, d) => bytes.length + uptoBulk d + 1
  | (_, d) => uptoBulk d + 1
 end
def uptoSmall : (H : Type) → List (DataW H) → Bool := fun _ ds => decide (uptoBulkAll ds ≤ 1048576)
def OpenSpec.upto (s : _root_.Go.ChangeSpec) : _root_.Go.OpenSpec := { _root_.Go.OpenSpec.ofChange s with cond := some uptoSmall }

/-- 'sandglasslaw10.GcraAsks', WHERE WHAT IT READS IS OF BULK AT MOST 1048576: true; the input reads as it did. -/
def gcraAsksUptoRow : OpenClaim := { program := "ytpeljhmbaibjcaa", sum := "f589f09c6af20fcd7f3212473729920aaa027eb1d4935888c3b13e6832e79d48", func := "sandglass/sandglasslaw10.GcraAsks", spec := "gcraAsks", unfollowed := true, recurses := true, apart := false, narrowed := true }
def GcraAsksUptoSaid : Prop := gcraAsksUptoRow.holds Try.pinned (OpenSpec.upto gcraAsksSpec)

/-- 'sandglasslaw10.GcraMay', WHERE WHAT IT READS IS OF BULK AT MOST 1048576: true; the input reads as it did. -/
def gcraMayUptoRow : OpenClaim := { program := "ytpeljhmbaibjcaa", sum := "f589f09c6af20fcd7f3212473729920aaa027eb1d4935888c3b13e6832e79d48", func := "sandglass/sandglasslaw10.GcraMay", spec := "gcraMay", unfollowed := true, recurses := true, apart := false, narrowed := true }
def GcraMayUptoSaid : Prop := gcraMayUptoRow.holds Try.pinned (OpenSpec.upto gcraMaySpec)

/-- 'sandglasslaw10.GcraEnds', WHERE WHAT IT READS IS OF BULK AT MOST 1048576: true; the input reads as it did. -/
def gcraEndsUptoRow : OpenClaim := { program := "ytpeljhmbaibjcaa", sum := "f589f09c6af20fcd7f3212473729920aaa027eb1d4935888c3b13e6832e79d48", func := "sandglass/sandglasslaw10.GcraEnds", spec := "gcraEnds", unfollowed := true, recurses := true, apart := false, narrowed := true }
def GcraEndsUptoSaid : Prop := gcraEndsUptoRow.holds Try.pinned (OpenSpec.upto gcraEndsSpec)

/-- 'sandglasslaw10.GcraRate', WHERE WHAT IT READS IS OF BULK AT MOST 1048576: true; the input reads as it did. -/
def gcraRateUptoRow : OpenClaim := { program := "ytpeljhmbaibjcaa", sum := "f589f09c6af20fcd7f3212473729920aaa027eb1d4935888c3b13e6832e79d48", func := "sandglass/sandglasslaw10.GcraRate", spec := "gcraRate", unfollowed := true, recurses := true, apart := false, narrowed := true }
def GcraRateUptoSaid : Prop := gcraRateUptoRow.holds Try.pinned (OpenSpec.upto gcraRateSpec)

/-- 'sandglasslaw10.GcraParts', WHERE WHAT IT READS IS OF BULK AT MOST 1048576: true; the input reads as it did. -/
def gcraPartsUptoRow : OpenClaim := { program := "ytpeljhmbaibjcaa", sum := "f589f09c6af20fcd7f3212473729920aaa027eb1d4935888c3b13e6832e79d48", func := "sandglass/sandglasslaw10.GcraParts", spec := "gcraParts", unfollowed := true, recurses := true, apart := false, narrowed := true }
def GcraPartsUptoSaid : Prop := gcraPartsUptoRow.holds Try.pinned (OpenSpec.upto gcraPartsSpec)

end Rows
end Go.Proofs.Ytpeljhmbaibjcaa
