/-
  No cell of these rows narrows 'for every input' (looked for: loops, veiled, ifaces, maps, wideKeys, modest, calm, conditions, laid).
  DERIVED. THE GIVEN ROWS OF THIS SEAT. 5 by the template 'for every input the law returns true; each argument reads behind the call as it read before'; 0 by the template 'total and deterministic' (their statements: YtjhipnhnbnnodaaTotals.lean).
  GIVEN WITH THE SEED: the statements are not yours to turn. If you find one false, say at which input.
  Laid BY PROGRAM, IN A SANDBOX (cutbox-rows.mjs): the forced cells as the released guide's own fill.sh prints them over the translation 04322ea78b7e9de1… (all of the seat's roots in one cut). By AI agents, Wed Nov 11 2026. No macro, syntax, notation, axiom, sorry.
-/
import Derived.Test.YtjhipnhnbnnodaaChecked
import GoSem.Claim
import GoSem.ClaimJoined
import GoSem.ClaimMapViews
import Derived.JoinedTies
import Derived.KernelRfl
namespace Go.Proofs.Ytjhipnhnbnnodaa
/- THE CELL 'sum', in the pinned program and in every row, IS THE sha256 OF THE DUMP (.gsa) THAT YtjhipnhnbnnodaaProg.lean LOADS. Nothing in Lean hashes anything: it is a label: what it is worth is what the hold of that sum in a sandbox is worth. -/
noncomputable def Try.pinned : Pinned := { name := "ytjhipnhnbnnodaa", sum := "04322ea78b7e9de1eaf1ce02032e54c0d0ffcfb5b720458e741c646d08ab4fb1", checked := Try.checked }
namespace Rows
def none {H : Type} : Left H := { results := [], args := [] }

/-- 'sandglasslaw09.PolicyTells': WHATEVER THE INPUT: true; the input reads as it did. -/
def policyTellsSpec : ChangeSpec := { name := "policyTells", fn := fun _ => fun
  | [d1, d2] => { results := [.lit (.bool true)], args := [d1, d2] }
  | _ => none }
def policyTellsRow : OpenClaim := { program := "ytjhipnhnbnnodaa", sum := "04322ea78b7e9de1eaf1ce02032e54c0d0ffcfb5b720458e741c646d08ab4fb1", func := "sandglass/sandglasslaw09.PolicyTells", spec := "policyTells", unfollowed := true, recurses := true, apart := false }
def PolicyTellsSaid : Prop := policyTellsRow.holds Try.pinned (OpenSpec.ofChange policyTellsSpec)

/-- ITS FALSE NEIGHBOUR: 'it returns false'. Refute it at one input. -/
def policyTellsWrong : ChangeSpec := { name := "policyTells", fn := fun _ => fun
  | [d1, d2] => { results := [.lit (.bool false)], args := [d1, d2] }
  | _ => none }
def PolicyTellsWrongFalsely : Prop := policyTellsRow.holds Try.pinned (OpenSpec.ofChange policyTellsWrong)

/-- 'sandglasslaw09.PolicyReads': WHATEVER THE INPUT: true; the input reads as it did. -/
def policyReadsSpec : ChangeSpec := { name := "policyReads", fn := fun _ => fun
  | [d] => { results := [.lit (.bool true)], args := [d] }
  | _ => none }
def policyReadsRow : OpenClaim := { program := "ytjhipnhnbnnodaa", sum := "04322ea78b7e9de1eaf1ce02032e54c0d0ffcfb5b720458e741c646d08ab4fb1", func := "sandglass/sandglasslaw09.PolicyReads", spec := "policyReads", unfollowed := true, recurses := true, apart := false }
def PolicyReadsSaid : Prop := policyReadsRow.holds Try.pinned (OpenSpec.ofChange policyReadsSpec)

/-- ITS FALSE NEIGHBOUR: 'it returns false'. Refute it at one input. -/
def policyReadsWrong : ChangeSpec := { name := "policyReads", fn := fun _ => fun
  | [d] => { results := [.lit (.bool false)], args := [d] }
  | _ => none }
def PolicyReadsWrongFalsely : Prop := policyReadsRow.holds Try.pinned (OpenSpec.ofChange policyReadsWrong)

/-- 'sandglasslaw09.PolicyBack': WHATEVER THE INPUT: true; the input reads as it did. -/
def policyBackSpec : ChangeSpec := { name := "policyBack", fn := fun _ => fun
  | [d1, d2] => { results := [.lit (.bool true)], args := [d1, d2] }
  | _ => none }
def policyBackRow : OpenClaim := { program := "ytjhipnhnbnnodaa", sum := "04322ea78b7e9de1eaf1ce02032e54c0d0ffcfb5b720458e741c646d08ab4fb1", func := "sandglass/sandglasslaw09.PolicyBack", spec := "policyBack", unfollowed := true, recurses := true, apart := false }
def PolicyBackSaid : Prop := policyBackRow.holds Try.pinned (OpenSpec.ofChange policyBackSpec)

/-- ITS FALSE NEIGHBOUR: 'it returns false'. Refute it at one input. -/
def policyBackWrong : ChangeSpec := { name := "policyBack", fn := fun _ => fun
  | [d1, d2] => { results := [.lit (.bool false)], args := [d1, d2] }
  | _ => none }
def PolicyBackWrongFalsely : Prop := policyBackRow.holds Try.pinned (OpenSpec.ofChange policyBackWrong)

/-- 'sandglasslaw09.PolicySlots': WHATEVER THE INPUT: true; the input reads as it did. -/
def policySlotsSpec : ChangeSpec := { name := "policySlots", fn := fun _ => fun
  | [d] => { results := [.lit (.bool true)], args := [d] }
  | _ => none }
def policySlotsRow : OpenClaim := { program := "ytjhipnhnbnnodaa", sum := "04322ea78b7e9de1eaf1ce02032e54c0d0ffcfb5b720458e741c646d08ab4fb1", func := "sandglass/sandglasslaw09.PolicySlots", spec := "policySlots", unfollowed := true, recurses := true, apart := false }
def PolicySlotsSaid : Prop := policySlotsRow.holds Try.pinned (OpenSpec.ofChange policySlotsSpec)

/-- ITS FALSE NEIGHBOUR: 'it returns false'. Refute it at one input. -/
def policySlotsWrong : ChangeSpec := { name := "policySlots", fn := fun _ => fun
  | [d] => { results := [.lit (.bool false)], args := [d] }
  | _ => none }
def PolicySlotsWrongFalsely : Prop := policySlotsRow.holds Try.pinned (OpenSpec.ofChange policySlotsWrong)

/-- 'sandglasslaw09.PolicyApart': WHATEVER THE INPUT: true; the input reads as it did. -/
def policyApartSpec : ChangeSpec := { name := "policyApart", fn := fun _ => fun
  | [d1, d2] => { results := [.lit (.bool true)], args := [d1, d2] }
  | _ => none }
def policyApartRow : OpenClaim := { program := "ytjhipnhnbnnodaa", sum := "04322ea78b7e9de1eaf1ce02032e54c0d0ffcfb5b720458e741c646d08ab4fb1", func := "sandglass/sandglasslaw09.PolicyApart", spec := "policyApart", unfollowed := true, recurses := true, apart := false }
def PolicyApartSaid : Prop := policyApartRow.holds Try.pinned (OpenSpec.ofChange policyApartSpec)

/-- ITS FALSE NEIGHBOUR: 'it returns false'. Refute it at one input. -/
def policyApartWrong : ChangeSpec := { name := "policyApart", fn := fun _ => fun
  | [d1, d2] => { results := [.lit (.bool false)], args := [d1, d2] }
  | _ => none }
def PolicyApartWrongFalsely : Prop := policyApartRow.holds Try.pinned (OpenSpec.ofChange policyApartWrong)

/- THE SECOND FORM. 'bulk': how many values and letters a reading holds, each counted each time it is reached (what is shared counts as often as it is met; a slice's spare places count too). A statement '..UptoSaid' is the law's where the arguments, and the package variables that the reading takes, are together of bulk at most 1048576: NARROWER than '..Said'. Prove '..Said' where nothing that the law and all that it calls make is longer than what came in: it says more and counts as full. Else prove '..UptoSaid'. A law counts once. -/
mutual
def uptoBulk {H : Type} : DataW H → Nat
  | .lit (.string bytes) => bytes.length + 1
  | .lit _ => 1
  | .nil => 1
  | .ptr d => uptoBulk d + 1
  | .slice elems spare => uptoBulkAll elems + uptoBulkAll spare + 1
  | .agg parts => uptoBulkAll parts + 1
  | .iface _ d => uptoBulk d + 1
  | .map entries => uptoBulkEntries entries + 1
  | .held _ => 1
def uptoBulkAll {H : Type} : List (DataW H) → Nat
  | [] => 0
  | d :: r => uptoBulk d + uptoBulkAll r
def uptoBulkEntries {H : Type} : List (Lit × DataW H) → Nat
  | [] => 0
  | x :: r => uptoBulkEntry x + uptoBulkEntries r
def uptoBulkEntry {H : Type} : Lit × DataW H → Nat
  | (.string bytes, d) => bytes.length + uptoBulk d + 1
  | (_, d) => uptoBulk d + 1
 end
def uptoSmall : (H : Type) → List (DataW H) → Bool := fun _ ds => decide (uptoBulkAll ds ≤ 1048576)
def OpenSpec.upto (s : _root_.Go.ChangeSpec) : _root_.Go.OpenSpec := { _root_.Go.OpenSpec.ofChange s with cond := some uptoSmall }

/-- 'sandglasslaw09.PolicyTells', WHERE WHAT IT READS IS OF BULK AT MOST 1048576: true; the input reads as it did. -/
def policyTellsUptoRow : OpenClaim := { program := "ytjhipnhnbnnodaa", sum := "04322ea78b7e9de1eaf1ce02032e54c0d0ffcfb5b720458e741c646d08ab4fb1", func := "sandglass/sandglasslaw09.PolicyTells", spec := "policyTells", unfollowed := true, recurses := true, apart := false, narrowed := true }
def PolicyTellsUptoSaid : Prop := policyTellsUptoRow.holds Try.pinned (OpenSpec.upto policyTellsSpec)

/-- 'sandglasslaw09.PolicyReads', WHERE WHAT IT READS IS OF BULK AT MOST 1048576: true; the input reads as it did. -/
def policyReadsUptoRow : OpenClaim := { program := "ytjhipnhnbnnodaa", sum := "04322ea78b7e9de1eaf1ce02032e54c0d0ffcfb5b720458e741c646d08ab4fb1", func := "sandglass/sandglasslaw09.PolicyReads", spec := "policyReads", unfollowed := true, recurses := true, apart := false, narrowed := true }
def PolicyReadsUptoSaid : Prop := policyReadsUptoRow.holds Try.pinned (OpenSpec.upto policyReadsSpec)

/-- 'sandglasslaw09.PolicyBack', WHERE WHAT IT READS IS OF BULK AT MOST 1048576: true; the input reads as it did. -/
def policyBackUptoRow : OpenClaim := { program := "ytjhipnhnbnnodaa", sum := "04322ea78b7e9de1eaf1ce02032e54c0d0ffcfb5b720458e741c646d08ab4fb1", func := "sandglass/sandglasslaw09.PolicyBack", spec := "policyBack", unfollowed := true, recurses := true, apart := false, narrowed := true }
def PolicyBackUptoSaid : Prop := policyBackUptoRow.holds Try.pinned (OpenSpec.upto policyBackSpec)

/-- 'sandglasslaw09.PolicySlots', WHERE WHAT IT READS IS OF BULK AT MOST 1048576: true; the input reads as it did. -/
def policySlotsUptoRow : OpenClaim := { program := "ytjhipnhnbnnodaa", sum := "04322ea78b7e9de1eaf1ce02032e54c0d0ffcfb5b720458e741c646d08ab4fb1", func := "sandglass/sandglasslaw09.PolicySlots", spec := "policySlots", unfollowed := true, recurses := true, apart := false, narrowed := true }
def PolicySlotsUptoSaid : Prop := policySlotsUptoRow.holds Try.pinned (OpenSpec.upto policySlotsSpec)

/-- 'sandglasslaw09.PolicyApart', WHERE WHAT IT READS IS OF BULK AT MOST 1048576: true; the input reads as it did. -/
def policyApartUptoRow : OpenClaim := { program := "ytjhipnhnbnnodaa", sum := "04322ea78b7e9de1eaf1ce02032e54c0d0ffcfb5b720458e741c646d08ab4fb1", func := "sandglass/sandglasslaw09.PolicyApart", spec := "policyApart", unfollowed := true, recurses := true, apart := false, narrowed := true }
def PolicyApartUptoSaid : Prop := policyApartUptoRow.holds Try.pinned (OpenSpec.upto policyApartSpec)

end Rows
end Go.Proofs.Ytjhipnhnbnnodaa
