/-
  No cell of these rows narrows 'for every input' (looked for: loops, veiled, ifaces, maps, wideKeys, modest, calm, conditions, laid).
  DERIVED. THE GIVEN ROWS OF THIS SEAT. 5 by the template 'for every input the law returns true; each argument reads behind the call as it read before'; 0 by the template 'total and deterministic' (their statements: YtalcmlgkdkbbaaaTotals.lean).
  GIVEN WITH THE SEED: the statements are not yours to turn. If you find one false, say at which input.
  Laid BY PROGRAM, IN A SANDBOX (cutbox-rows.mjs): the forced cells as the released guide's own fill.sh prints them over the translation 83758cde6f80249f… (all of the seat's roots in one cut). By AI agents, Wed Nov 11 2026. No macro, syntax, notation, axiom, sorry.
-/
import Derived.Test.YtalcmlgkdkbbaaaChecked
import GoSem.Claim
import GoSem.ClaimJoined
import GoSem.ClaimMapViews
import Derived.JoinedTies
import Derived.KernelRfl
namespace Go.Proofs.Ytalcmlgkdkbbaaa
/- THE CELL 'sum', in the pinned program and in every row, IS THE sha256 OF THE DUMP (.gsa) THAT YtalcmlgkdkbbaaaProg.lean LOADS. Nothing in Lean hashes anything: it is a label: what it is worth is what the hold of that sum in a sandbox is worth. -/
noncomputable def Try.pinned : Pinned := { name := "ytalcmlgkdkbbaaa", sum := "83758cde6f80249f76f5e8e2e4ba85c95c8edeb2544a175d82a2fd2e1d4d4a5d", checked := Try.checked }
namespace Rows
def none {H : Type} : Left H := { results := [], args := [] }

/-- 'sandglasslaw12.RingAsks': WHATEVER THE INPUT: true; the input reads as it did. -/
def ringAsksSpec : ChangeSpec := { name := "ringAsks", fn := fun _ => fun
  | [d1, d2, d3] => { results := [.lit (.bool true)], args := [d1, d2, d3] }
  | _ => none }
def ringAsksRow : OpenClaim := { program := "ytalcmlgkdkbbaaa", sum := "83758cde6f80249f76f5e8e2e4ba85c95c8edeb2544a175d82a2fd2e1d4d4a5d", func := "sandglass/sandglasslaw12.RingAsks", spec := "ringAsks", unfollowed := true, recurses := true, apart := false }
def RingAsksSaid : Prop := ringAsksRow.holds Try.pinned (OpenSpec.ofChange ringAsksSpec)

/-- ITS FALSE NEIGHBOUR: 'it returns false'. Refute it at one input. -/
def ringAsksWrong : ChangeSpec := { name := "ringAsks", fn := fun _ => fun
  | [d1, d2, d3] => { results := [.lit (.bool false)], args := [d1, d2, d3] }
  | _ => none }
def RingAsksWrongFalsely : Prop := ringAsksRow.holds Try.pinned (OpenSpec.ofChange ringAsksWrong)

/-- 'sandglasslaw12.RingMay': WHATEVER THE INPUT: true; the input reads as it did. -/
def ringMaySpec : ChangeSpec := { name := "ringMay", fn := fun _ => fun
  | [d1, d2, d3] => { results := [.lit (.bool true)], args := [d1, d2, d3] }
  | _ => none }
def ringMayRow : OpenClaim := { program := "ytalcmlgkdkbbaaa", sum := "83758cde6f80249f76f5e8e2e4ba85c95c8edeb2544a175d82a2fd2e1d4d4a5d", func := "sandglass/sandglasslaw12.RingMay", spec := "ringMay", unfollowed := true, recurses := true, apart := false }
def RingMaySaid : Prop := ringMayRow.holds Try.pinned (OpenSpec.ofChange ringMaySpec)

/-- ITS FALSE NEIGHBOUR: 'it returns false'. Refute it at one input. -/
def ringMayWrong : ChangeSpec := { name := "ringMay", fn := fun _ => fun
  | [d1, d2, d3] => { results := [.lit (.bool false)], args := [d1, d2, d3] }
  | _ => none }
def RingMayWrongFalsely : Prop := ringMayRow.holds Try.pinned (OpenSpec.ofChange ringMayWrong)

/-- 'sandglasslaw12.RingEnds': WHATEVER THE INPUT: true; the input reads as it did. -/
def ringEndsSpec : ChangeSpec := { name := "ringEnds", fn := fun _ => fun
  | [d1, d2, d3] => { results := [.lit (.bool true)], args := [d1, d2, d3] }
  | _ => none }
def ringEndsRow : OpenClaim := { program := "ytalcmlgkdkbbaaa", sum := "83758cde6f80249f76f5e8e2e4ba85c95c8edeb2544a175d82a2fd2e1d4d4a5d", func := "sandglass/sandglasslaw12.RingEnds", spec := "ringEnds", unfollowed := true, recurses := true, apart := false }
def RingEndsSaid : Prop := ringEndsRow.holds Try.pinned (OpenSpec.ofChange ringEndsSpec)

/-- ITS FALSE NEIGHBOUR: 'it returns false'. Refute it at one input. -/
def ringEndsWrong : ChangeSpec := { name := "ringEnds", fn := fun _ => fun
  | [d1, d2, d3] => { results := [.lit (.bool false)], args := [d1, d2, d3] }
  | _ => none }
def RingEndsWrongFalsely : Prop := ringEndsRow.holds Try.pinned (OpenSpec.ofChange ringEndsWrong)

/-- 'sandglasslaw12.RingRate': WHATEVER THE INPUT: true; the input reads as it did. -/
def ringRateSpec : ChangeSpec := { name := "ringRate", fn := fun _ => fun
  | [d1, d2] => { results := [.lit (.bool true)], args := [d1, d2] }
  | _ => none }
def ringRateRow : OpenClaim := { program := "ytalcmlgkdkbbaaa", sum := "83758cde6f80249f76f5e8e2e4ba85c95c8edeb2544a175d82a2fd2e1d4d4a5d", func := "sandglass/sandglasslaw12.RingRate", spec := "ringRate", unfollowed := true, recurses := true, apart := false }
def RingRateSaid : Prop := ringRateRow.holds Try.pinned (OpenSpec.ofChange ringRateSpec)

/-- ITS FALSE NEIGHBOUR: 'it returns false'. Refute it at one input. -/
def ringRateWrong : ChangeSpec := { name := "ringRate", fn := fun _ => fun
  | [d1, d2] => { results := [.lit (.bool false)], args := [d1, d2] }
  | _ => none }
def RingRateWrongFalsely : Prop := ringRateRow.holds Try.pinned (OpenSpec.ofChange ringRateWrong)

/-- 'sandglasslaw12.RingParts': WHATEVER THE INPUT: true; the input reads as it did. -/
def ringPartsSpec : ChangeSpec := { name := "ringParts", fn := fun _ => fun
  | [d1, d2, d3] => { results := [.lit (.bool true)], args := [d1, d2, d3] }
  | _ => none }
def ringPartsRow : OpenClaim := { program := "ytalcmlgkdkbbaaa", sum := "83758cde6f80249f76f5e8e2e4ba85c95c8edeb2544a175d82a2fd2e1d4d4a5d", func := "sandglass/sandglasslaw12.RingParts", spec := "ringParts", unfollowed := true, recurses := true, apart := false }
def RingPartsSaid : Prop := ringPartsRow.holds Try.pinned (OpenSpec.ofChange ringPartsSpec)

/-- ITS FALSE NEIGHBOUR: 'it returns false'. Refute it at one input. -/
def ringPartsWrong : ChangeSpec := { name := "ringParts", fn := fun _ => fun
  | [d1, d2, d3] => { results := [.lit (.bool false)], args := [d1, d2, d3] }
  | _ => none }
def RingPartsWrongFalsely : Prop := ringPartsRow.holds Try.pinned (OpenSpec.ofChange ringPartsWrong)

/- THE SECOND FORM. 'bulk': how many values and letters a reading holds, each counted each time it is reached (what is shared counts as often as it is met; a slice's spare places count too). A statement '..UptoSaid' is the law's where the arguments, and the package variables that the reading takes, are together of bulk at most 1048576: NARROWER than '..Said'. Prove '..Said' where nothing that the law and all that it calls make is longer than what came in: it says more and counts as full. Else prove '..UptoSaid'. A law counts once. -/
mutual
def uptoBulk {H : Type} : DataW H → Nat
  | .lit (.string bytes) => bytes.length + 1
  | .lit _ => 1
  | .nil => 1
  | .ptr d => uptoBulk d + 1
  | .slice elems spare => uptoBulkAll elems + uptoBulkAll spare + 1
  | .agg parts => uptoBulkAll parts + 1
  | .iface _ d => uptoBulk d + 1
  | .map entries => uptoBulkEntries entries + 1
  | .held _ => 1
def uptoBulkAll {H : Type} : List (DataW H) → Nat
  | [] => 0
  | d :: r => uptoBulk d + uptoBulkAll r
def uptoBulkEntries {H : Type} : List (Lit × DataW H) → Nat
  | [] => 0
  | x :: r => uptoBulkEntry x + uptoBulkEntries r
def uptoBulkEntry {H : Type} : Lit × DataW H → Nat
  | (.string bytes, d) => bytes.length + uptoBulk d + 1
  | (_, d) => uptoBulk d + 1
 end
def uptoSmall : (H : Type) → List (DataW H) → Bool := fun _ ds => decide (uptoBulkAll ds ≤ 1048576)
def OpenSpec.upto (s : _root_.Go.ChangeSpec) : _root_.Go.OpenSpec := { _root_.Go.OpenSpec.ofChange s with cond := some uptoSmall }

/-- 'sandglasslaw12.RingAsks', WHERE WHAT IT READS IS OF BULK AT MOST 1048576: true; the input reads as it did. -/
def ringAsksUptoRow : OpenClaim := { program := "ytalcmlgkdkbbaaa", sum := "83758cde6f80249f76f5e8e2e4ba85c95c8edeb2544a175d82a2fd2e1d4d4a5d", func := "sandglass/sandglasslaw12.RingAsks", spec := "ringAsks", unfollowed := true, recurses := true, apart := false, narrowed := true }
def RingAsksUptoSaid : Prop := ringAsksUptoRow.holds Try.pinned (OpenSpec.upto ringAsksSpec)

/-- 'sandglasslaw12.RingMay', WHERE WHAT IT READS IS OF BULK AT MOST 1048576: true; the input reads as it did. -/
def ringMayUptoRow : OpenClaim := { program := "ytalcmlgkdkbbaaa", sum := "83758cde6f80249f76f5e8e2e4ba85c95c8edeb2544a175d82a2fd2e1d4d4a5d", func := "sandglass/sandglasslaw12.RingMay", spec := "ringMay", unfollowed := true, recurses := true, apart := false, narrowed := true }
def RingMayUptoSaid : Prop := ringMayUptoRow.holds Try.pinned (OpenSpec.upto ringMaySpec)

/-- 'sandglasslaw12.RingEnds', WHERE WHAT IT READS IS OF BULK AT MOST 1048576: true; the input reads as it did. -/
def ringEndsUptoRow : OpenClaim := { program := "ytalcmlgkdkbbaaa", sum := "83758cde6f80249f76f5e8e2e4ba85c95c8edeb2544a175d82a2fd2e1d4d4a5d", func := "sandglass/sandglasslaw12.RingEnds", spec := "ringEnds", unfollowed := true, recurses := true, apart := false, narrowed := true }
def RingEndsUptoSaid : Prop := ringEndsUptoRow.holds Try.pinned (OpenSpec.upto ringEndsSpec)

/-- 'sandglasslaw12.RingRate', WHERE WHAT IT READS IS OF BULK AT MOST 1048576: true; the input reads as it did. -/
def ringRateUptoRow : OpenClaim := { program := "ytalcmlgkdkbbaaa", sum := "83758cde6f80249f76f5e8e2e4ba85c95c8edeb2544a175d82a2fd2e1d4d4a5d", func := "sandglass/sandglasslaw12.RingRate", spec := "ringRate", unfollowed := true, recurses := true, apart := false, narrowed := true }
def RingRateUptoSaid : Prop := ringRateUptoRow.holds Try.pinned (OpenSpec.upto ringRateSpec)

/-- 'sandglasslaw12.RingParts', WHERE WHAT IT READS IS OF BULK AT MOST 1048576: true; the input reads as it did. -/
def ringPartsUptoRow : OpenClaim := { program := "ytalcmlgkdkbbaaa", sum := "83758cde6f80249f76f5e8e2e4ba85c95c8edeb2544a175d82a2fd2e1d4d4a5d", func := "sandglass/sandglasslaw12.RingParts", spec := "ringParts", unfollowed := true, recurses := true, apart := false, narrowed := true }
def RingPartsUptoSaid : Prop := ringPartsUptoRow.holds Try.pinned (OpenSpec.upto ringPartsSpec)

end Rows
end Go.Proofs.Ytalcmlgkdkbbaaa
