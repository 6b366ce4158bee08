/-
  No cell of these rows narrows 'for every input' (looked for: loops, veiled, ifaces, maps, wideKeys, modest, calm, conditions, laid).
  DERIVED. THE GIVEN ROWS OF THIS SEAT. 5 by the template 'for every input the law returns true; each argument reads behind the call as it read before'; 0 by the template 'total and deterministic' (their statements: YtempbjcmhillgaaTotals.lean).
  GIVEN WITH THE SEED: the statements are not yours to turn. If you find one false, say at which input.
  Laid BY PROGRAM, IN A SANDBOX (cutbox-rows.mjs): the forced cells as the released guide's own fill.sh prints them over the translation 296afef16c07c99f… (all of the seat's roots in one cut). By AI agents, Wed Nov 11 2026. No macro, syntax, notation, axiom, sorry.
-/
import Derived.Test.YtempbjcmhillgaaChecked
import GoSem.Claim
import GoSem.ClaimJoined
import GoSem.ClaimMapViews
import Derived.JoinedTies
import Derived.KernelRfl
namespace Go.Proofs.Ytempbjcmhillgaa
/- THE CELL 'sum', in the pinned program and in every row, IS THE sha256 OF THE DUMP (.gsa) THAT YtempbjcmhillgaaProg.lean LOADS. Nothing in Lean hashes anything: it is a label: what it is worth is what the hold of that sum in a sandbox is worth. -/
noncomputable def Try.pinned : Pinned := { name := "ytempbjcmhillgaa", sum := "296afef16c07c99fea0a355ebb3ed8e92650ed1382edc360ed6ad460cabd6f9c", checked := Try.checked }
namespace Rows
def none {H : Type} : Left H := { results := [], args := [] }

/-- 'sandglasslaw13.ExactAsks': WHATEVER THE INPUT: true; the input reads as it did. -/
def exactAsksSpec : ChangeSpec := { name := "exactAsks", fn := fun _ => fun
  | [d1, d2, d3] => { results := [.lit (.bool true)], args := [d1, d2, d3] }
  | _ => none }
def exactAsksRow : OpenClaim := { program := "ytempbjcmhillgaa", sum := "296afef16c07c99fea0a355ebb3ed8e92650ed1382edc360ed6ad460cabd6f9c", func := "sandglass/sandglasslaw13.ExactAsks", spec := "exactAsks", unfollowed := true, recurses := true, apart := false }
def ExactAsksSaid : Prop := exactAsksRow.holds Try.pinned (OpenSpec.ofChange exactAsksSpec)

/-- ITS FALSE NEIGHBOUR: 'it returns false'. Refute it at one input. -/
def exactAsksWrong : ChangeSpec := { name := "exactAsks", fn := fun _ => fun
  | [d1, d2, d3] => { results := [.lit (.bool false)], args := [d1, d2, d3] }
  | _ => none }
def ExactAsksWrongFalsely : Prop := exactAsksRow.holds Try.pinned (OpenSpec.ofChange exactAsksWrong)

/-- 'sandglasslaw13.ExactMay': WHATEVER THE INPUT: true; the input reads as it did. -/
def exactMaySpec : ChangeSpec := { name := "exactMay", fn := fun _ => fun
  | [d1, d2, d3] => { results := [.lit (.bool true)], args := [d1, d2, d3] }
  | _ => none }
def exactMayRow : OpenClaim := { program := "ytempbjcmhillgaa", sum := "296afef16c07c99fea0a355ebb3ed8e92650ed1382edc360ed6ad460cabd6f9c", func := "sandglass/sandglasslaw13.ExactMay", spec := "exactMay", unfollowed := true, recurses := true, apart := false }
def ExactMaySaid : Prop := exactMayRow.holds Try.pinned (OpenSpec.ofChange exactMaySpec)

/-- ITS FALSE NEIGHBOUR: 'it returns false'. Refute it at one input. -/
def exactMayWrong : ChangeSpec := { name := "exactMay", fn := fun _ => fun
  | [d1, d2, d3] => { results := [.lit (.bool false)], args := [d1, d2, d3] }
  | _ => none }
def ExactMayWrongFalsely : Prop := exactMayRow.holds Try.pinned (OpenSpec.ofChange exactMayWrong)

/-- 'sandglasslaw13.ExactEnds': WHATEVER THE INPUT: true; the input reads as it did. -/
def exactEndsSpec : ChangeSpec := { name := "exactEnds", fn := fun _ => fun
  | [d1, d2, d3] => { results := [.lit (.bool true)], args := [d1, d2, d3] }
  | _ => none }
def exactEndsRow : OpenClaim := { program := "ytempbjcmhillgaa", sum := "296afef16c07c99fea0a355ebb3ed8e92650ed1382edc360ed6ad460cabd6f9c", func := "sandglass/sandglasslaw13.ExactEnds", spec := "exactEnds", unfollowed := true, recurses := true, apart := false }
def ExactEndsSaid : Prop := exactEndsRow.holds Try.pinned (OpenSpec.ofChange exactEndsSpec)

/-- ITS FALSE NEIGHBOUR: 'it returns false'. Refute it at one input. -/
def exactEndsWrong : ChangeSpec := { name := "exactEnds", fn := fun _ => fun
  | [d1, d2, d3] => { results := [.lit (.bool false)], args := [d1, d2, d3] }
  | _ => none }
def ExactEndsWrongFalsely : Prop := exactEndsRow.holds Try.pinned (OpenSpec.ofChange exactEndsWrong)

/-- 'sandglasslaw13.ExactRate': WHATEVER THE INPUT: true; the input reads as it did. -/
def exactRateSpec : ChangeSpec := { name := "exactRate", fn := fun _ => fun
  | [d1, d2] => { results := [.lit (.bool true)], args := [d1, d2] }
  | _ => none }
def exactRateRow : OpenClaim := { program := "ytempbjcmhillgaa", sum := "296afef16c07c99fea0a355ebb3ed8e92650ed1382edc360ed6ad460cabd6f9c", func := "sandglass/sandglasslaw13.ExactRate", spec := "exactRate", unfollowed := true, recurses := true, apart := false }
def ExactRateSaid : Prop := exactRateRow.holds Try.pinned (OpenSpec.ofChange exactRateSpec)

/-- ITS FALSE NEIGHBOUR: 'it returns false'. Refute it at one input. -/
def exactRateWrong : ChangeSpec := { name := "exactRate", fn := fun _ => fun
  | [d1, d2] => { results := [.lit (.bool false)], args := [d1, d2] }
  | _ => none }
def ExactRateWrongFalsely : Prop := exactRateRow.holds Try.pinned (OpenSpec.ofChange exactRateWrong)

/-- 'sandglasslaw13.ExactParts': WHATEVER THE INPUT: true; the input reads as it did. -/
def exactPartsSpec : ChangeSpec := { name := "exactParts", fn := fun _ => fun
  | [d1, d2, d3] => { results := [.lit (.bool true)], args := [d1, d2, d3] }
  | _ => none }
def exactPartsRow : OpenClaim := { program := "ytempbjcmhillgaa", sum := "296afef16c07c99fea0a355ebb3ed8e92650ed1382edc360ed6ad460cabd6f9c", func := "sandglass/sandglasslaw13.ExactParts", spec := "exactParts", unfollowed := true, recurses := true, apart := false }
def ExactPartsSaid : Prop := exactPartsRow.holds Try.pinned (OpenSpec.ofChange exactPartsSpec)

/-- ITS FALSE NEIGHBOUR: 'it returns false'. Refute it at one input. -/
def exactPartsWrong : ChangeSpec := { name := "exactParts", fn := fun _ => fun
  | [d1, d2, d3] => { results := [.lit (.bool false)], args := [d1, d2, d3] }
  | _ => none }
def ExactPartsWrongFalsely : Prop := exactPartsRow.holds Try.pinned (OpenSpec.ofChange exactPartsWrong)

/- THE SECOND FORM. 'bulk': how many values and letters a reading holds, each counted each time it is reached (what is shared counts as often as it is met; a slice's spare places count too). A statement '..UptoSaid' is the law's where the arguments, and the package variables that the reading takes, are together of bulk at most 1048576: NARROWER than '..Said'. Prove '..Said' where nothing that the law and all that it calls make is longer than what came in: it says more and counts as full. Else prove '..UptoSaid'. A law counts once. -/
mutual
def uptoBulk {H : Type} : DataW H → Nat
  | .lit (.string bytes) => bytes.length + 1
  | .lit _ => 1
  | .nil => 1
  | .ptr d => uptoBulk d + 1
  | .slice elems spare => uptoBulkAll elems + uptoBulkAll spare + 1
  | .agg parts => uptoBulkAll parts + 1
  | .iface _ d => uptoBulk d + 1
  | .map entries => uptoBulkEntries entries + 1
  | .held _ => 1
def uptoBulkAll {H : Type} : List (DataW H) → Nat
  | [] => 0
  | d :: r => uptoBulk d + uptoBulkAll r
def uptoBulkEntries {H : Type} : List (Lit × DataW H) → Nat
  | [] => 0
  | x :: r => uptoBulkEntry x + uptoBulkEntries r
def uptoBulkEntry {H : Type} : Lit × DataW H → Nat
  | (.string bytes, d) => bytes.length + uptoBulk d + 1
  | (_, d) => uptoBulk d + 1
 end
def uptoSmall : (H : Type) → List (DataW H) → Bool := fun _ ds => decide (uptoBulkAll ds ≤ 1048576)
def OpenSpec.upto (s : _root_.Go.ChangeSpec) : _root_.Go.OpenSpec := { _root_.Go.OpenSpec.ofChange s with cond := some uptoSmall }

/-- 'sandglasslaw13.ExactAsks', WHERE WHAT IT READS IS OF BULK AT MOST 1048576: true; the input reads as it did. -/
def exactAsksUptoRow : OpenClaim := { program := "ytempbjcmhillgaa", sum := "296afef16c07c99fea0a355ebb3ed8e92650ed1382edc360ed6ad460cabd6f9c", func := "sandglass/sandglasslaw13.ExactAsks", spec := "exactAsks", unfollowed := true, recurses := true, apart := false, narrowed := true }
def ExactAsksUptoSaid : Prop := exactAsksUptoRow.holds Try.pinned (OpenSpec.upto exactAsksSpec)

/-- 'sandglasslaw13.ExactMay', WHERE WHAT IT READS IS OF BULK AT MOST 1048576: true; the input reads as it did. -/
def exactMayUptoRow : OpenClaim := { program := "ytempbjcmhillgaa", sum := "296afef16c07c99fea0a355ebb3ed8e92650ed1382edc360ed6ad460cabd6f9c", func := "sandglass/sandglasslaw13.ExactMay", spec := "exactMay", unfollowed := true, recurses := true, apart := false, narrowed := true }
def ExactMayUptoSaid : Prop := exactMayUptoRow.holds Try.pinned (OpenSpec.upto exactMaySpec)

/-- 'sandglasslaw13.ExactEnds', WHERE WHAT IT READS IS OF BULK AT MOST 1048576: true; the input reads as it did. -/
def exactEndsUptoRow : OpenClaim := { program := "ytempbjcmhillgaa", sum := "296afef16c07c99fea0a355ebb3ed8e92650ed1382edc360ed6ad460cabd6f9c", func := "sandglass/sandglasslaw13.ExactEnds", spec := "exactEnds", unfollowed := true, recurses := true, apart := false, narrowed := true }
def ExactEndsUptoSaid : Prop := exactEndsUptoRow.holds Try.pinned (OpenSpec.upto exactEndsSpec)

/-- 'sandglasslaw13.ExactRate', WHERE WHAT IT READS IS OF BULK AT MOST 1048576: true; the input reads as it did. -/
def exactRateUptoRow : OpenClaim := { program := "ytempbjcmhillgaa", sum := "296afef16c07c99fea0a355ebb3ed8e92650ed1382edc360ed6ad460cabd6f9c", func := "sandglass/sandglasslaw13.ExactRate", spec := "exactRate", unfollowed := true, recurses := true, apart := false, narrowed := true }
def ExactRateUptoSaid : Prop := exactRateUptoRow.holds Try.pinned (OpenSpec.upto exactRateSpec)

/-- 'sandglasslaw13.ExactParts', WHERE WHAT IT READS IS OF BULK AT MOST 1048576: true; the input reads as it did. -/
def exactPartsUptoRow : OpenClaim := { program := "ytempbjcmhillgaa", sum := "296afef16c07c99fea0a355ebb3ed8e92650ed1382edc360ed6ad460cabd6f9c", func := "sandglass/sandglasslaw13.ExactParts", spec := "exactParts", unfollowed := true, recurses := true, apart := false, narrowed := true }
def ExactPartsUptoSaid : Prop := exactPartsUptoRow.holds Try.pinned (OpenSpec.upto exactPartsSpec)

end Rows
end Go.Proofs.Ytempbjcmhillgaa
