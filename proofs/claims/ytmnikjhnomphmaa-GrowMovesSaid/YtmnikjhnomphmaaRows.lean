/-
  No cell of these rows narrows 'for every input' (looked for: loops, veiled, ifaces, maps, wideKeys, modest, calm, conditions, laid).
  DERIVED. THE GIVEN ROWS OF THIS SEAT. 7 by the template 'for every input the law returns true; each argument reads behind the call as it read before'; 0 by the template 'total and deterministic' (their statements: YtmnikjhnomphmaaTotals.lean).
  GIVEN WITH THE SEED: the statements are not yours to turn. If you find one false, say at which input.
  Laid BY PROGRAM, IN A SANDBOX (cutbox-rows.mjs): the forced cells as the released guide's own fill.sh prints them over the translation f3a984b3b4843b51… (all of the seat's roots in one cut). By AI agents, Wed Nov 11 2026. No macro, syntax, notation, axiom, sorry.
-/
import Derived.Test.YtmnikjhnomphmaaChecked
import GoSem.Claim
import GoSem.ClaimJoined
import GoSem.ClaimMapViews
import Derived.JoinedTies
import Derived.KernelRfl
namespace Go.Proofs.Ytmnikjhnomphmaa
/- THE CELL 'sum', in the pinned program and in every row, IS THE sha256 OF THE DUMP (.gsa) THAT YtmnikjhnomphmaaProg.lean LOADS. Nothing in Lean hashes anything: it is a label: what it is worth is what the hold of that sum in a sandbox is worth. -/
noncomputable def Try.pinned : Pinned := { name := "ytmnikjhnomphmaa", sum := "f3a984b3b4843b519373753f8f0d0599b0c93b1f53cffe3fe0552aa2c82d6020", checked := Try.checked }
namespace Rows
def none {H : Type} : Left H := { results := [], args := [] }

/-- 'sandglasslaw06.GrowMaps': WHATEVER THE INPUT: true; the input reads as it did. -/
def growMapsSpec : ChangeSpec := { name := "growMaps", fn := fun _ => fun
  | [d1, d2, d3] => { results := [.lit (.bool true)], args := [d1, d2, d3] }
  | _ => none }
def growMapsRow : OpenClaim := { program := "ytmnikjhnomphmaa", sum := "f3a984b3b4843b519373753f8f0d0599b0c93b1f53cffe3fe0552aa2c82d6020", func := "sandglass/sandglasslaw06.GrowMaps", spec := "growMaps", unfollowed := true, recurses := true, apart := false }
def GrowMapsSaid : Prop := growMapsRow.holds Try.pinned (OpenSpec.ofChange growMapsSpec)

/-- ITS FALSE NEIGHBOUR: 'it returns false'. Refute it at one input. -/
def growMapsWrong : ChangeSpec := { name := "growMaps", fn := fun _ => fun
  | [d1, d2, d3] => { results := [.lit (.bool false)], args := [d1, d2, d3] }
  | _ => none }
def GrowMapsWrongFalsely : Prop := growMapsRow.holds Try.pinned (OpenSpec.ofChange growMapsWrong)

/-- 'sandglasslaw06.GrowMoves': WHATEVER THE INPUT: true; the input reads as it did. -/
def growMovesSpec : ChangeSpec := { name := "growMoves", fn := fun _ => fun
  | [d1, d2, d3] => { results := [.lit (.bool true)], args := [d1, d2, d3] }
  | _ => none }
def growMovesRow : OpenClaim := { program := "ytmnikjhnomphmaa", sum := "f3a984b3b4843b519373753f8f0d0599b0c93b1f53cffe3fe0552aa2c82d6020", func := "sandglass/sandglasslaw06.GrowMoves", spec := "growMoves", unfollowed := true, recurses := true, apart := false }
def GrowMovesSaid : Prop := growMovesRow.holds Try.pinned (OpenSpec.ofChange growMovesSpec)

/-- ITS FALSE NEIGHBOUR: 'it returns false'. Refute it at one input. -/
def growMovesWrong : ChangeSpec := { name := "growMoves", fn := fun _ => fun
  | [d1, d2, d3] => { results := [.lit (.bool false)], args := [d1, d2, d3] }
  | _ => none }
def GrowMovesWrongFalsely : Prop := growMovesRow.holds Try.pinned (OpenSpec.ofChange growMovesWrong)

/-- 'sandglasslaw06.GrowKeeps': WHATEVER THE INPUT: true; the input reads as it did. -/
def growKeepsSpec : ChangeSpec := { name := "growKeeps", fn := fun _ => fun
  | [d1, d2, d3] => { results := [.lit (.bool true)], args := [d1, d2, d3] }
  | _ => none }
def growKeepsRow : OpenClaim := { program := "ytmnikjhnomphmaa", sum := "f3a984b3b4843b519373753f8f0d0599b0c93b1f53cffe3fe0552aa2c82d6020", func := "sandglass/sandglasslaw06.GrowKeeps", spec := "growKeeps", unfollowed := true, recurses := true, apart := false }
def GrowKeepsSaid : Prop := growKeepsRow.holds Try.pinned (OpenSpec.ofChange growKeepsSpec)

/-- ITS FALSE NEIGHBOUR: 'it returns false'. Refute it at one input. -/
def growKeepsWrong : ChangeSpec := { name := "growKeeps", fn := fun _ => fun
  | [d1, d2, d3] => { results := [.lit (.bool false)], args := [d1, d2, d3] }
  | _ => none }
def GrowKeepsWrongFalsely : Prop := growKeepsRow.holds Try.pinned (OpenSpec.ofChange growKeepsWrong)

/-- 'sandglasslaw06.GrowFull': WHATEVER THE INPUT: true; the input reads as it did. -/
def growFullSpec : ChangeSpec := { name := "growFull", fn := fun _ => fun
  | [d1, d2] => { results := [.lit (.bool true)], args := [d1, d2] }
  | _ => none }
def growFullRow : OpenClaim := { program := "ytmnikjhnomphmaa", sum := "f3a984b3b4843b519373753f8f0d0599b0c93b1f53cffe3fe0552aa2c82d6020", func := "sandglass/sandglasslaw06.GrowFull", spec := "growFull", unfollowed := true, recurses := true, apart := false }
def GrowFullSaid : Prop := growFullRow.holds Try.pinned (OpenSpec.ofChange growFullSpec)

/-- ITS FALSE NEIGHBOUR: 'it returns false'. Refute it at one input. -/
def growFullWrong : ChangeSpec := { name := "growFull", fn := fun _ => fun
  | [d1, d2] => { results := [.lit (.bool false)], args := [d1, d2] }
  | _ => none }
def GrowFullWrongFalsely : Prop := growFullRow.holds Try.pinned (OpenSpec.ofChange growFullWrong)

/-- 'sandglasslaw06.GrowNil': WHATEVER THE INPUT: true; the input reads as it did. -/
def growNilSpec : ChangeSpec := { name := "growNil", fn := fun _ => fun
  | [d1, d2] => { results := [.lit (.bool true)], args := [d1, d2] }
  | _ => none }
def growNilRow : OpenClaim := { program := "ytmnikjhnomphmaa", sum := "f3a984b3b4843b519373753f8f0d0599b0c93b1f53cffe3fe0552aa2c82d6020", func := "sandglass/sandglasslaw06.GrowNil", spec := "growNil", unfollowed := true, recurses := true, apart := false }
def GrowNilSaid : Prop := growNilRow.holds Try.pinned (OpenSpec.ofChange growNilSpec)

/-- ITS FALSE NEIGHBOUR: 'it returns false'. Refute it at one input. -/
def growNilWrong : ChangeSpec := { name := "growNil", fn := fun _ => fun
  | [d1, d2] => { results := [.lit (.bool false)], args := [d1, d2] }
  | _ => none }
def GrowNilWrongFalsely : Prop := growNilRow.holds Try.pinned (OpenSpec.ofChange growNilWrong)

/-- 'sandglasslaw06.GrowMoved': WHATEVER THE INPUT: true; the input reads as it did. -/
def growMovedSpec : ChangeSpec := { name := "growMoved", fn := fun _ => fun
  | [d1, d2, d3] => { results := [.lit (.bool true)], args := [d1, d2, d3] }
  | _ => none }
def growMovedRow : OpenClaim := { program := "ytmnikjhnomphmaa", sum := "f3a984b3b4843b519373753f8f0d0599b0c93b1f53cffe3fe0552aa2c82d6020", func := "sandglass/sandglasslaw06.GrowMoved", spec := "growMoved", unfollowed := true, recurses := true, apart := false }
def GrowMovedSaid : Prop := growMovedRow.holds Try.pinned (OpenSpec.ofChange growMovedSpec)

/-- ITS FALSE NEIGHBOUR: 'it returns false'. Refute it at one input. -/
def growMovedWrong : ChangeSpec := { name := "growMoved", fn := fun _ => fun
  | [d1, d2, d3] => { results := [.lit (.bool false)], args := [d1, d2, d3] }
  | _ => none }
def GrowMovedWrongFalsely : Prop := growMovedRow.holds Try.pinned (OpenSpec.ofChange growMovedWrong)

/-- 'sandglasslaw06.GrowSmall': WHATEVER THE INPUT: true; the input reads as it did. -/
def growSmallSpec : ChangeSpec := { name := "growSmall", fn := fun _ => fun
  | [d1, d2, d3] => { results := [.lit (.bool true)], args := [d1, d2, d3] }
  | _ => none }
def growSmallRow : OpenClaim := { program := "ytmnikjhnomphmaa", sum := "f3a984b3b4843b519373753f8f0d0599b0c93b1f53cffe3fe0552aa2c82d6020", func := "sandglass/sandglasslaw06.GrowSmall", spec := "growSmall", unfollowed := true, recurses := true, apart := false }
def GrowSmallSaid : Prop := growSmallRow.holds Try.pinned (OpenSpec.ofChange growSmallSpec)

/-- ITS FALSE NEIGHBOUR: 'it returns false'. Refute it at one input. -/
def growSmallWrong : ChangeSpec := { name := "growSmall", fn := fun _ => fun
  | [d1, d2, d3] => { results := [.lit (.bool false)], args := [d1, d2, d3] }
  | _ => none }
def GrowSmallWrongFalsely : Prop := growSmallRow.holds Try.pinned (OpenSpec.ofChange growSmallWrong)

/- THE SECOND FORM. 'bulk': how many values and letters a reading holds, each counted each time it is reached (what is shared counts as often as it is met; a slice's spare places count too). A statement '..UptoSaid' is the law's where the arguments, and the package variables that the reading takes, are together of bulk at most 1048576: NARROWER than '..Said'. Prove '..Said' where nothing that the law and all that it calls make is longer than what came in: it says more and counts as full. Else prove '..UptoSaid'. A law counts once. -/
mutual
def uptoBulk {H : Type} : DataW H → Nat
  | .lit (.string bytes) => bytes.length + 1
  | .lit _ => 1
  | .nil => 1
  | .ptr d => uptoBulk d + 1
  | .slice elems spare => uptoBulkAll elems + uptoBulkAll spare + 1
  | .agg parts => uptoBulkAll parts + 1
  | .iface _ d => uptoBulk d + 1
  | .map entries => uptoBulkEntries entries + 1
  | .held _ => 1
def uptoBulkAll {H : Type} : List (DataW H) → Nat
  | [] => 0
  | d :: r => uptoBulk d + uptoBulkAll r
def uptoBulkEntries {H : Type} : List (Lit × DataW H) → Nat
  | [] => 0
  | x :: r => uptoBulkEntry x + uptoBulkEntries r
def uptoBulkEntry {H : Type} : Lit × DataW H → Nat
  | (.string bytes, d) => bytes.length + uptoBulk d + 1
  | (_, d) => uptoBulk d + 1
 end
def uptoSmall : (H : Type) → List (DataW H) → Bool := fun _ ds => decide (uptoBulkAll ds ≤ 1048576)
def OpenSpec.upto (s : _root_.Go.ChangeSpec) : _root_.Go.OpenSpec := { _root_.Go.OpenSpec.ofChange s with cond := some uptoSmall }

/-- 'sandglasslaw06.GrowMaps', WHERE WHAT IT READS IS OF BULK AT MOST 1048576: true; the input reads as it did. -/
def growMapsUptoRow : OpenClaim := { program := "ytmnikjhnomphmaa", sum := "f3a984b3b4843b519373753f8f0d0599b0c93b1f53cffe3fe0552aa2c82d6020", func := "sandglass/sandglasslaw06.GrowMaps", spec := "growMaps", unfollowed := true, recurses := true, apart := false, narrowed := true }
def GrowMapsUptoSaid : Prop := growMapsUptoRow.holds Try.pinned (OpenSpec.upto growMapsSpec)

/-- 'sandglasslaw06.GrowMoves', WHERE WHAT IT READS IS OF BULK AT MOST 1048576: true; the input reads as it did. -/
def growMovesUptoRow : OpenClaim := { program := "ytmnikjhnomphmaa", sum := "f3a984b3b4843b519373753f8f0d0599b0c93b1f53cffe3fe0552aa2c82d6020", func := "sandglass/sandglasslaw06.GrowMoves", spec := "growMoves", unfollowed := true, recurses := true, apart := false, narrowed := true }
def GrowMovesUptoSaid : Prop := growMovesUptoRow.holds Try.pinned (OpenSpec.upto growMovesSpec)

/-- 'sandglasslaw06.GrowKeeps', WHERE WHAT IT READS IS OF BULK AT MOST 1048576: true; the input reads as it did. -/
def growKeepsUptoRow : OpenClaim := { program := "ytmnikjhnomphmaa", sum := "f3a984b3b4843b519373753f8f0d0599b0c93b1f53cffe3fe0552aa2c82d6020", func := "sandglass/sandglasslaw06.GrowKeeps", spec := "growKeeps", unfollowed := true, recurses := true, apart := false, narrowed := true }
def GrowKeepsUptoSaid : Prop := growKeepsUptoRow.holds Try.pinned (OpenSpec.upto growKeepsSpec)

/-- 'sandglasslaw06.GrowFull', WHERE WHAT IT READS IS OF BULK AT MOST 1048576: true; the input reads as it did. -/
def growFullUptoRow : OpenClaim := { program := "ytmnikjhnomphmaa", sum := "f3a984b3b4843b519373753f8f0d0599b0c93b1f53cffe3fe0552aa2c82d6020", func := "sandglass/sandglasslaw06.GrowFull", spec := "growFull", unfollowed := true, recurses := true, apart := false, narrowed := true }
def GrowFullUptoSaid : Prop := growFullUptoRow.holds Try.pinned (OpenSpec.upto growFullSpec)

/-- 'sandglasslaw06.GrowNil', WHERE WHAT IT READS IS OF BULK AT MOST 1048576: true; the input reads as it did. -/
def growNilUptoRow : OpenClaim := { program := "ytmnikjhnomphmaa", sum := "f3a984b3b4843b519373753f8f0d0599b0c93b1f53cffe3fe0552aa2c82d6020", func := "sandglass/sandglasslaw06.GrowNil", spec := "growNil", unfollowed := true, recurses := true, apart := false, narrowed := true }
def GrowNilUptoSaid : Prop := growNilUptoRow.holds Try.pinned (OpenSpec.upto growNilSpec)

/-- 'sandglasslaw06.GrowMoved', WHERE WHAT IT READS IS OF BULK AT MOST 1048576: true; the input reads as it did. -/
def growMovedUptoRow : OpenClaim := { program := "ytmnikjhnomphmaa", sum := "f3a984b3b4843b519373753f8f0d0599b0c93b1f53cffe3fe0552aa2c82d6020", func := "sandglass/sandglasslaw06.GrowMoved", spec := "growMoved", unfollowed := true, recurses := true, apart := false, narrowed := true }
def GrowMovedUptoSaid : Prop := growMovedUptoRow.holds Try.pinned (OpenSpec.upto growMovedSpec)

/-- 'sandglasslaw06.GrowSmall', WHERE WHAT IT READS IS OF BULK AT MOST 1048576: true; the input reads as it did. -/
def growSmallUptoRow : OpenClaim := { program := "ytmnikjhnomphmaa", sum := "f3a984b3b4843b519373753f8f0d0599b0c93b1f53cffe3fe0552aa2c82d6020", func := "sandglass/sandglasslaw06.GrowSmall", spec := "growSmall", unfollowed := true, recurses := true, apart := false, narrowed := true }
def GrowSmallUptoSaid : Prop := growSmallUptoRow.holds Try.pinned (OpenSpec.upto growSmallSpec)

end Rows
end Go.Proofs.Ytmnikjhnomphmaa
