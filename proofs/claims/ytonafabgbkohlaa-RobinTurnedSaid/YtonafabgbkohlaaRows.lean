/-
  No cell of these rows narrows 'for every input' (looked for: loops, veiled, ifaces, maps, wideKeys, modest, calm, conditions, laid).
  DERIVED. THE GIVEN ROWS OF THIS SEAT. 7 by the template 'for every input the law returns true; each argument reads behind the call as it read before'; 0 by the template 'total and deterministic' (their statements: YtonafabgbkohlaaTotals.lean).
  GIVEN WITH THE SEED: the statements are not yours to turn. If you find one false, say at which input.
  Laid BY PROGRAM, IN A SANDBOX (cutbox-rows.mjs): the forced cells as the released guide's own fill.sh prints them over the translation 6860fac415fd2fa2… (all of the seat's roots in one cut). By AI agents, Wed Nov 11 2026. No macro, syntax, notation, axiom, sorry.
-/
import Derived.Test.YtonafabgbkohlaaChecked
import GoSem.Claim
import GoSem.ClaimJoined
import GoSem.ClaimMapViews
import Derived.JoinedTies
import Derived.KernelRfl
namespace Go.Proofs.Ytonafabgbkohlaa
/- THE CELL 'sum', in the pinned program and in every row, IS THE sha256 OF THE DUMP (.gsa) THAT YtonafabgbkohlaaProg.lean LOADS. Nothing in Lean hashes anything: it is a label: what it is worth is what the hold of that sum in a sandbox is worth. -/
noncomputable def Try.pinned : Pinned := { name := "ytonafabgbkohlaa", sum := "6860fac415fd2fa2a3d150e9dd825dc1189b03fce487d806f872f24da6647ae9", checked := Try.checked }
namespace Rows
def none {H : Type} : Left H := { results := [], args := [] }

/-- 'sandglasslaw05.RobinMaps': WHATEVER THE INPUT: true; the input reads as it did. -/
def robinMapsSpec : ChangeSpec := { name := "robinMaps", fn := fun _ => fun
  | [d1, d2, d3] => { results := [.lit (.bool true)], args := [d1, d2, d3] }
  | _ => none }
def robinMapsRow : OpenClaim := { program := "ytonafabgbkohlaa", sum := "6860fac415fd2fa2a3d150e9dd825dc1189b03fce487d806f872f24da6647ae9", func := "sandglass/sandglasslaw05.RobinMaps", spec := "robinMaps", unfollowed := true, recurses := true, apart := false }
def RobinMapsSaid : Prop := robinMapsRow.holds Try.pinned (OpenSpec.ofChange robinMapsSpec)

/-- ITS FALSE NEIGHBOUR: 'it returns false'. Refute it at one input. -/
def robinMapsWrong : ChangeSpec := { name := "robinMaps", fn := fun _ => fun
  | [d1, d2, d3] => { results := [.lit (.bool false)], args := [d1, d2, d3] }
  | _ => none }
def RobinMapsWrongFalsely : Prop := robinMapsRow.holds Try.pinned (OpenSpec.ofChange robinMapsWrong)

/-- 'sandglasslaw05.RobinWell': WHATEVER THE INPUT: true; the input reads as it did. -/
def robinWellSpec : ChangeSpec := { name := "robinWell", fn := fun _ => fun
  | [d1, d2, d3] => { results := [.lit (.bool true)], args := [d1, d2, d3] }
  | _ => none }
def robinWellRow : OpenClaim := { program := "ytonafabgbkohlaa", sum := "6860fac415fd2fa2a3d150e9dd825dc1189b03fce487d806f872f24da6647ae9", func := "sandglass/sandglasslaw05.RobinWell", spec := "robinWell", unfollowed := true, recurses := true, apart := false }
def RobinWellSaid : Prop := robinWellRow.holds Try.pinned (OpenSpec.ofChange robinWellSpec)

/-- ITS FALSE NEIGHBOUR: 'it returns false'. Refute it at one input. -/
def robinWellWrong : ChangeSpec := { name := "robinWell", fn := fun _ => fun
  | [d1, d2, d3] => { results := [.lit (.bool false)], args := [d1, d2, d3] }
  | _ => none }
def RobinWellWrongFalsely : Prop := robinWellRow.holds Try.pinned (OpenSpec.ofChange robinWellWrong)

/-- 'sandglasslaw05.RobinFinds': WHATEVER THE INPUT: true; the input reads as it did. -/
def robinFindsSpec : ChangeSpec := { name := "robinFinds", fn := fun _ => fun
  | [d1, d2, d3] => { results := [.lit (.bool true)], args := [d1, d2, d3] }
  | _ => none }
def robinFindsRow : OpenClaim := { program := "ytonafabgbkohlaa", sum := "6860fac415fd2fa2a3d150e9dd825dc1189b03fce487d806f872f24da6647ae9", func := "sandglass/sandglasslaw05.RobinFinds", spec := "robinFinds", unfollowed := true, recurses := true, apart := false }
def RobinFindsSaid : Prop := robinFindsRow.holds Try.pinned (OpenSpec.ofChange robinFindsSpec)

/-- ITS FALSE NEIGHBOUR: 'it returns false'. Refute it at one input. -/
def robinFindsWrong : ChangeSpec := { name := "robinFinds", fn := fun _ => fun
  | [d1, d2, d3] => { results := [.lit (.bool false)], args := [d1, d2, d3] }
  | _ => none }
def RobinFindsWrongFalsely : Prop := robinFindsRow.holds Try.pinned (OpenSpec.ofChange robinFindsWrong)

/-- 'sandglasslaw05.RobinPuts': WHATEVER THE INPUT: true; the input reads as it did. -/
def robinPutsSpec : ChangeSpec := { name := "robinPuts", fn := fun _ => fun
  | [d1, d2, d3] => { results := [.lit (.bool true)], args := [d1, d2, d3] }
  | _ => none }
def robinPutsRow : OpenClaim := { program := "ytonafabgbkohlaa", sum := "6860fac415fd2fa2a3d150e9dd825dc1189b03fce487d806f872f24da6647ae9", func := "sandglass/sandglasslaw05.RobinPuts", spec := "robinPuts", unfollowed := true, recurses := true, apart := false }
def RobinPutsSaid : Prop := robinPutsRow.holds Try.pinned (OpenSpec.ofChange robinPutsSpec)

/-- ITS FALSE NEIGHBOUR: 'it returns false'. Refute it at one input. -/
def robinPutsWrong : ChangeSpec := { name := "robinPuts", fn := fun _ => fun
  | [d1, d2, d3] => { results := [.lit (.bool false)], args := [d1, d2, d3] }
  | _ => none }
def RobinPutsWrongFalsely : Prop := robinPutsRow.holds Try.pinned (OpenSpec.ofChange robinPutsWrong)

/-- 'sandglasslaw05.RobinFull': WHATEVER THE INPUT: true; the input reads as it did. -/
def robinFullSpec : ChangeSpec := { name := "robinFull", fn := fun _ => fun
  | [d1, d2] => { results := [.lit (.bool true)], args := [d1, d2] }
  | _ => none }
def robinFullRow : OpenClaim := { program := "ytonafabgbkohlaa", sum := "6860fac415fd2fa2a3d150e9dd825dc1189b03fce487d806f872f24da6647ae9", func := "sandglass/sandglasslaw05.RobinFull", spec := "robinFull", unfollowed := true, recurses := true, apart := false }
def RobinFullSaid : Prop := robinFullRow.holds Try.pinned (OpenSpec.ofChange robinFullSpec)

/-- ITS FALSE NEIGHBOUR: 'it returns false'. Refute it at one input. -/
def robinFullWrong : ChangeSpec := { name := "robinFull", fn := fun _ => fun
  | [d1, d2] => { results := [.lit (.bool false)], args := [d1, d2] }
  | _ => none }
def RobinFullWrongFalsely : Prop := robinFullRow.holds Try.pinned (OpenSpec.ofChange robinFullWrong)

/-- 'sandglasslaw05.RobinNil': WHATEVER THE INPUT: true; the input reads as it did. -/
def robinNilSpec : ChangeSpec := { name := "robinNil", fn := fun _ => fun
  | [d1, d2] => { results := [.lit (.bool true)], args := [d1, d2] }
  | _ => none }
def robinNilRow : OpenClaim := { program := "ytonafabgbkohlaa", sum := "6860fac415fd2fa2a3d150e9dd825dc1189b03fce487d806f872f24da6647ae9", func := "sandglass/sandglasslaw05.RobinNil", spec := "robinNil", unfollowed := true, recurses := true, apart := false }
def RobinNilSaid : Prop := robinNilRow.holds Try.pinned (OpenSpec.ofChange robinNilSpec)

/-- ITS FALSE NEIGHBOUR: 'it returns false'. Refute it at one input. -/
def robinNilWrong : ChangeSpec := { name := "robinNil", fn := fun _ => fun
  | [d1, d2] => { results := [.lit (.bool false)], args := [d1, d2] }
  | _ => none }
def RobinNilWrongFalsely : Prop := robinNilRow.holds Try.pinned (OpenSpec.ofChange robinNilWrong)

/-- 'sandglasslaw05.RobinTurned': WHATEVER THE INPUT: true; the input reads as it did. -/
def robinTurnedSpec : ChangeSpec := { name := "robinTurned", fn := fun _ => fun
  | [d1, d2] => { results := [.lit (.bool true)], args := [d1, d2] }
  | _ => none }
def robinTurnedRow : OpenClaim := { program := "ytonafabgbkohlaa", sum := "6860fac415fd2fa2a3d150e9dd825dc1189b03fce487d806f872f24da6647ae9", func := "sandglass/sandglasslaw05.RobinTurned", spec := "robinTurned", unfollowed := true, recurses := true, apart := false }
def RobinTurnedSaid : Prop := robinTurnedRow.holds Try.pinned (OpenSpec.ofChange robinTurnedSpec)

/-- ITS FALSE NEIGHBOUR: 'it returns false'. Refute it at one input. -/
def robinTurnedWrong : ChangeSpec := { name := "robinTurned", fn := fun _ => fun
  | [d1, d2] => { results := [.lit (.bool false)], args := [d1, d2] }
  | _ => none }
def RobinTurnedWrongFalsely : Prop := robinTurnedRow.holds Try.pinned (OpenSpec.ofChange robinTurnedWrong)

/- THE SECOND FORM. 'bulk': how many values and letters a reading holds, each counted each time it is reached (what is shared counts as often as it is met; a slice's spare places count too). A statement '..UptoSaid' is the law's where the arguments, and the package variables that the reading takes, are together of bulk at most 1048576: NARROWER than '..Said'. Prove '..Said' where nothing that the law and all that it calls make is longer than what came in: it says more and counts as full. Else prove '..UptoSaid'. A law counts once. -/
mutual
def uptoBulk {H : Type} : DataW H → Nat
  | .lit (.string bytes) => bytes.length + 1
  | .lit _ => 1
  | .nil => 1
  | .ptr d => uptoBulk d + 1
  | .slice elems spare => uptoBulkAll elems + uptoBulkAll spare + 1
  | .agg parts => uptoBulkAll parts + 1
  | .iface _ d => uptoBulk d + 1
  | .map entries => uptoBulkEntries entries + 1
  | .held _ => 1
def uptoBulkAll {H : Type} : List (DataW H) → Nat
  | [] => 0
  | d :: r => uptoBulk d + uptoBulkAll r
def uptoBulkEntries {H : Type} : List (Lit × DataW H) → Nat
  | [] => 0
  | x :: r => uptoBulkEntry x + uptoBulkEntries r
def uptoBulkEntry {H : Type} : Lit × DataW H → Nat
  | (.string bytes, d) => bytes.length + uptoBulk d + 1
  | (_, d) => uptoBulk d + 1
 end
def uptoSmall : (H : Type) → List (DataW H) → Bool := fun _ ds => decide (uptoBulkAll ds ≤ 1048576)
def OpenSpec.upto (s : _root_.Go.ChangeSpec) : _root_.Go.OpenSpec := { _root_.Go.OpenSpec.ofChange s with cond := some uptoSmall }

/-- 'sandglasslaw05.RobinMaps', WHERE WHAT IT READS IS OF BULK AT MOST 1048576: true; the input reads as it did. -/
def robinMapsUptoRow : OpenClaim := { program := "ytonafabgbkohlaa", sum := "6860fac415fd2fa2a3d150e9dd825dc1189b03fce487d806f872f24da6647ae9", func := "sandglass/sandglasslaw05.RobinMaps", spec := "robinMaps", unfollowed := true, recurses := true, apart := false, narrowed := true }
def RobinMapsUptoSaid : Prop := robinMapsUptoRow.holds Try.pinned (OpenSpec.upto robinMapsSpec)

/-- 'sandglasslaw05.RobinWell', WHERE WHAT IT READS IS OF BULK AT MOST 1048576: true; the input reads as it did. -/
def robinWellUptoRow : OpenClaim := { program := "ytonafabgbkohlaa", sum := "6860fac415fd2fa2a3d150e9dd825dc1189b03fce487d806f872f24da6647ae9", func := "sandglass/sandglasslaw05.RobinWell", spec := "robinWell", unfollowed := true, recurses := true, apart := false, narrowed := true }
def RobinWellUptoSaid : Prop := robinWellUptoRow.holds Try.pinned (OpenSpec.upto robinWellSpec)

/-- 'sandglasslaw05.RobinFinds', WHERE WHAT IT READS IS OF BULK AT MOST 1048576: true; the input reads as it did. -/
def robinFindsUptoRow : OpenClaim := { program := "ytonafabgbkohlaa", sum := "6860fac415fd2fa2a3d150e9dd825dc1189b03fce487d806f872f24da6647ae9", func := "sandglass/sandglasslaw05.RobinFinds", spec := "robinFinds", unfollowed := true, recurses := true, apart := false, narrowed := true }
def RobinFindsUptoSaid : Prop := robinFindsUptoRow.holds Try.pinned (OpenSpec.upto robinFindsSpec)

/-- 'sandglasslaw05.RobinPuts', WHERE WHAT IT READS IS OF BULK AT MOST 1048576: true; the input reads as it did. -/
def robinPutsUptoRow : OpenClaim := { program := "ytonafabgbkohlaa", sum := "6860fac415fd2fa2a3d150e9dd825dc1189b03fce487d806f872f24da6647ae9", func := "sandglass/sandglasslaw05.RobinPuts", spec := "robinPuts", unfollowed := true, recurses := true, apart := false, narrowed := true }
def RobinPutsUptoSaid : Prop := robinPutsUptoRow.holds Try.pinned (OpenSpec.upto robinPutsSpec)

/-- 'sandglasslaw05.RobinFull', WHERE WHAT IT READS IS OF BULK AT MOST 1048576: true; the input reads as it did. -/
def robinFullUptoRow : OpenClaim := { program := "ytonafabgbkohlaa", sum := "6860fac415fd2fa2a3d150e9dd825dc1189b03fce487d806f872f24da6647ae9", func := "sandglass/sandglasslaw05.RobinFull", spec := "robinFull", unfollowed := true, recurses := true, apart := false, narrowed := true }
def RobinFullUptoSaid : Prop := robinFullUptoRow.holds Try.pinned (OpenSpec.upto robinFullSpec)

/-- 'sandglasslaw05.RobinNil', WHERE WHAT IT READS IS OF BULK AT MOST 1048576: true; the input reads as it did. -/
def robinNilUptoRow : OpenClaim := { program := "ytonafabgbkohlaa", sum := "6860fac415fd2fa2a3d150e9dd825dc1189b03fce487d806f872f24da6647ae9", func := "sandglass/sandglasslaw05.RobinNil", spec := "robinNil", unfollowed := true, recurses := true, apart := false, narrowed := true }
def RobinNilUptoSaid : Prop := robinNilUptoRow.holds Try.pinned (OpenSpec.upto robinNilSpec)

/-- 'sandglasslaw05.RobinTurned', WHERE WHAT IT READS IS OF BULK AT MOST 1048576: true; the input reads as it did. -/
def robinTurnedUptoRow : OpenClaim := { program := "ytonafabgbkohlaa", sum := "6860fac415fd2fa2a3d150e9dd825dc1189b03fce487d806f872f24da6647ae9", func := "sandglass/sandglasslaw05.RobinTurned", spec := "robinTurned", unfollowed := true, recurses := true, apart := false, narrowed := true }
def RobinTurnedUptoSaid : Prop := robinTurnedUptoRow.holds Try.pinned (OpenSpec.upto robinTurnedSpec)

end Rows
end Go.Proofs.Ytonafabgbkohlaa
