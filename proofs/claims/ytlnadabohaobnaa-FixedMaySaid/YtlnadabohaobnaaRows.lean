/-
  No cell of these rows narrows 'for every input' (looked for: loops, veiled, ifaces, maps, wideKeys, modest, calm, conditions, laid).
  DERIVED. THE GIVEN ROWS OF THIS SEAT. 5 by the template 'for every input the law returns true; each argument reads behind the call as it read before'; 0 by the template 'total and deterministic' (their statements: YtlnadabohaobnaaTotals.lean).
  GIVEN WITH THE SEED: the statements are not yours to turn. If you find one false, say at which input.
  Laid BY PROGRAM, IN A SANDBOX (cutbox-rows.mjs): the forced cells as the released guide's own fill.sh prints them over the translation 5dcd2bc8d6242742… (all of the seat's roots in one cut). By AI agents, Wed Nov 11 2026. No macro, syntax, notation, axiom, sorry.
-/
import Derived.Test.YtlnadabohaobnaaChecked
import GoSem.Claim
import GoSem.ClaimJoined
import GoSem.ClaimMapViews
import Derived.JoinedTies
import Derived.KernelRfl
namespace Go.Proofs.Ytlnadabohaobnaa
/- THE CELL 'sum', in the pinned program and in every row, IS THE sha256 OF THE DUMP (.gsa) THAT YtlnadabohaobnaaProg.lean LOADS. Nothing in Lean hashes anything: it is a label: what it is worth is what the hold of that sum in a sandbox is worth. -/
noncomputable def Try.pinned : Pinned := { name := "ytlnadabohaobnaa", sum := "5dcd2bc8d62427423ddc49b2cd7fc2fdbfe02fee9bd0815bc5db084fd63deebd", checked := Try.checked }
namespace Rows
def none {H : Type} : Left H := { results := [], args := [] }

/-- 'sandglasslaw11.FixedAsks': WHATEVER THE INPUT: true; the input reads as it did. -/
def fixedAsksSpec : ChangeSpec := { name := "fixedAsks", fn := fun _ => fun
  | [d1, d2, d3] => { results := [.lit (.bool true)], args := [d1, d2, d3] }
  | _ => none }
def fixedAsksRow : OpenClaim := { program := "ytlnadabohaobnaa", sum := "5dcd2bc8d62427423ddc49b2cd7fc2fdbfe02fee9bd0815bc5db084fd63deebd", func := "sandglass/sandglasslaw11.FixedAsks", spec := "fixedAsks", unfollowed := true, recurses := true, apart := false }
def FixedAsksSaid : Prop := fixedAsksRow.holds Try.pinned (OpenSpec.ofChange fixedAsksSpec)

/-- ITS FALSE NEIGHBOUR: 'it returns false'. Refute it at one input. -/
def fixedAsksWrong : ChangeSpec := { name := "fixedAsks", fn := fun _ => fun
  | [d1, d2, d3] => { results := [.lit (.bool false)], args := [d1, d2, d3] }
  | _ => none }
def FixedAsksWrongFalsely : Prop := fixedAsksRow.holds Try.pinned (OpenSpec.ofChange fixedAsksWrong)

/-- 'sandglasslaw11.FixedMay': WHATEVER THE INPUT: true; the input reads as it did. -/
def fixedMaySpec : ChangeSpec := { name := "fixedMay", fn := fun _ => fun
  | [d1, d2, d3] => { results := [.lit (.bool true)], args := [d1, d2, d3] }
  | _ => none }
def fixedMayRow : OpenClaim := { program := "ytlnadabohaobnaa", sum := "5dcd2bc8d62427423ddc49b2cd7fc2fdbfe02fee9bd0815bc5db084fd63deebd", func := "sandglass/sandglasslaw11.FixedMay", spec := "fixedMay", unfollowed := true, recurses := true, apart := false }
def FixedMaySaid : Prop := fixedMayRow.holds Try.pinned (OpenSpec.ofChange fixedMaySpec)

/-- ITS FALSE NEIGHBOUR: 'it returns false'. Refute it at one input. -/
def fixedMayWrong : ChangeSpec := { name := "fixedMay", fn := fun _ => fun
  | [d1, d2, d3] => { results := [.lit (.bool false)], args := [d1, d2, d3] }
  | _ => none }
def FixedMayWrongFalsely : Prop := fixedMayRow.holds Try.pinned (OpenSpec.ofChange fixedMayWrong)

/-- 'sandglasslaw11.FixedEnds': WHATEVER THE INPUT: true; the input reads as it did. -/
def fixedEndsSpec : ChangeSpec := { name := "fixedEnds", fn := fun _ => fun
  | [d1, d2, d3] => { results := [.lit (.bool true)], args := [d1, d2, d3] }
  | _ => none }
def fixedEndsRow : OpenClaim := { program := "ytlnadabohaobnaa", sum := "5dcd2bc8d62427423ddc49b2cd7fc2fdbfe02fee9bd0815bc5db084fd63deebd", func := "sandglass/sandglasslaw11.FixedEnds", spec := "fixedEnds", unfollowed := true, recurses := true, apart := false }
def FixedEndsSaid : Prop := fixedEndsRow.holds Try.pinned (OpenSpec.ofChange fixedEndsSpec)

/-- ITS FALSE NEIGHBOUR: 'it returns false'. Refute it at one input. -/
def fixedEndsWrong : ChangeSpec := { name := "fixedEnds", fn := fun _ => fun
  | [d1, d2, d3] => { results := [.lit (.bool false)], args := [d1, d2, d3] }
  | _ => none }
def FixedEndsWrongFalsely : Prop := fixedEndsRow.holds Try.pinned (OpenSpec.ofChange fixedEndsWrong)

/-- 'sandglasslaw11.FixedRate': WHATEVER THE INPUT: true; the input reads as it did. -/
def fixedRateSpec : ChangeSpec := { name := "fixedRate", fn := fun _ => fun
  | [d1, d2] => { results := [.lit (.bool true)], args := [d1, d2] }
  | _ => none }
def fixedRateRow : OpenClaim := { program := "ytlnadabohaobnaa", sum := "5dcd2bc8d62427423ddc49b2cd7fc2fdbfe02fee9bd0815bc5db084fd63deebd", func := "sandglass/sandglasslaw11.FixedRate", spec := "fixedRate", unfollowed := true, recurses := true, apart := false }
def FixedRateSaid : Prop := fixedRateRow.holds Try.pinned (OpenSpec.ofChange fixedRateSpec)

/-- ITS FALSE NEIGHBOUR: 'it returns false'. Refute it at one input. -/
def fixedRateWrong : ChangeSpec := { name := "fixedRate", fn := fun _ => fun
  | [d1, d2] => { results := [.lit (.bool false)], args := [d1, d2] }
  | _ => none }
def FixedRateWrongFalsely : Prop := fixedRateRow.holds Try.pinned (OpenSpec.ofChange fixedRateWrong)

/-- 'sandglasslaw11.FixedParts': WHATEVER THE INPUT: true; the input reads as it did. -/
def fixedPartsSpec : ChangeSpec := { name := "fixedParts", fn := fun _ => fun
  | [d1, d2, d3] => { results := [.lit (.bool true)], args := [d1, d2, d3] }
  | _ => none }
def fixedPartsRow : OpenClaim := { program := "ytlnadabohaobnaa", sum := "5dcd2bc8d62427423ddc49b2cd7fc2fdbfe02fee9bd0815bc5db084fd63deebd", func := "sandglass/sandglasslaw11.FixedParts", spec := "fixedParts", unfollowed := true, recurses := true, apart := false }
def FixedPartsSaid : Prop := fixedPartsRow.holds Try.pinned (OpenSpec.ofChange fixedPartsSpec)

/-- ITS FALSE NEIGHBOUR: 'it returns false'. Refute it at one input. -/
def fixedPartsWrong : ChangeSpec := { name := "fixedParts", fn := fun _ => fun
  | [d1, d2, d3] => { results := [.lit (.bool false)], args := [d1, d2, d3] }
  | _ => none }
def FixedPartsWrongFalsely : Prop := fixedPartsRow.holds Try.pinned (OpenSpec.ofChange fixedPartsWrong)

/- THE SECOND FORM. 'bulk': how many values and letters a reading holds, each counted each time it is reached (what is shared counts as often as it is met; a slice's spare places count too). A statement '..UptoSaid' is the law's where the arguments, and the package variables that the reading takes, are together of bulk at most 1048576: NARROWER than '..Said'. Prove '..Said' where nothing that the law and all that it calls make is longer than what came in: it says more and counts as full. Else prove '..UptoSaid'. A law counts once. -/
mutual
def uptoBulk {H : Type} : DataW H → Nat
  | .lit (.string bytes) => bytes.length + 1
  | .lit _ => 1
  | .nil => 1
  | .ptr d => uptoBulk d + 1
  | .slice elems spare => uptoBulkAll elems + uptoBulkAll spare + 1
  | .agg parts => uptoBulkAll parts + 1
  | .iface _ d => uptoBulk d + 1
  | .map entries => uptoBulkEntries entries + 1
  | .held _ => 1
def uptoBulkAll {H : Type} : List (DataW H) → Nat
  | [] => 0
  | d :: r => uptoBulk d + uptoBulkAll r
def uptoBulkEntries {H : Type} : List (Lit × DataW H) → Nat
  | [] => 0
  | x :: r => uptoBulkEntry x + uptoBulkEntries r
def uptoBulkEntry {H : Type} : Lit × DataW H → Nat
  | (.string bytes, d) => bytes.length + uptoBulk d + 1
  | (_, d) => uptoBulk d + 1
 end
def uptoSmall : (H : Type) → List (DataW H) → Bool := fun _ ds => decide (uptoBulkAll ds ≤ 1048576)
def OpenSpec.upto (s : _root_.Go.ChangeSpec) : _root_.Go.OpenSpec := { _root_.Go.OpenSpec.ofChange s with cond := some uptoSmall }

/-- 'sandglasslaw11.FixedAsks', WHERE WHAT IT READS IS OF BULK AT MOST 1048576: true; the input reads as it did. -/
def fixedAsksUptoRow : OpenClaim := { program := "ytlnadabohaobnaa", sum := "5dcd2bc8d62427423ddc49b2cd7fc2fdbfe02fee9bd0815bc5db084fd63deebd", func := "sandglass/sandglasslaw11.FixedAsks", spec := "fixedAsks", unfollowed := true, recurses := true, apart := false, narrowed := true }
def FixedAsksUptoSaid : Prop := fixedAsksUptoRow.holds Try.pinned (OpenSpec.upto fixedAsksSpec)

/-- 'sandglasslaw11.FixedMay', WHERE WHAT IT READS IS OF BULK AT MOST 1048576: true; the input reads as it did. -/
def fixedMayUptoRow : OpenClaim := { program := "ytlnadabohaobnaa", sum := "5dcd2bc8d62427423ddc49b2cd7fc2fdbfe02fee9bd0815bc5db084fd63deebd", func := "sandglass/sandglasslaw11.FixedMay", spec := "fixedMay", unfollowed := true, recurses := true, apart := false, narrowed := true }
def FixedMayUptoSaid : Prop := fixedMayUptoRow.holds Try.pinned (OpenSpec.upto fixedMaySpec)

/-- 'sandglasslaw11.FixedEnds', WHERE WHAT IT READS IS OF BULK AT MOST 1048576: true; the input reads as it did. -/
def fixedEndsUptoRow : OpenClaim := { program := "ytlnadabohaobnaa", sum := "5dcd2bc8d62427423ddc49b2cd7fc2fdbfe02fee9bd0815bc5db084fd63deebd", func := "sandglass/sandglasslaw11.FixedEnds", spec := "fixedEnds", unfollowed := true, recurses := true, apart := false, narrowed := true }
def FixedEndsUptoSaid : Prop := fixedEndsUptoRow.holds Try.pinned (OpenSpec.upto fixedEndsSpec)

/-- 'sandglasslaw11.FixedRate', WHERE WHAT IT READS IS OF BULK AT MOST 1048576: true; the input reads as it did. -/
def fixedRateUptoRow : OpenClaim := { program := "ytlnadabohaobnaa", sum := "5dcd2bc8d62427423ddc49b2cd7fc2fdbfe02fee9bd0815bc5db084fd63deebd", func := "sandglass/sandglasslaw11.FixedRate", spec := "fixedRate", unfollowed := true, recurses := true, apart := false, narrowed := true }
def FixedRateUptoSaid : Prop := fixedRateUptoRow.holds Try.pinned (OpenSpec.upto fixedRateSpec)

/-- 'sandglasslaw11.FixedParts', WHERE WHAT IT READS IS OF BULK AT MOST 1048576: true; the input reads as it did. -/
def fixedPartsUptoRow : OpenClaim := { program := "ytlnadabohaobnaa", sum := "5dcd2bc8d62427423ddc49b2cd7fc2fdbfe02fee9bd0815bc5db084fd63deebd", func := "sandglass/sandglasslaw11.FixedParts", spec := "fixedParts", unfollowed := true, recurses := true, apart := false, narrowed := true }
def FixedPartsUptoSaid : Prop := fixedPartsUptoRow.holds Try.pinned (OpenSpec.upto fixedPartsSpec)

end Rows
end Go.Proofs.Ytlnadabohaobnaa
