/-
  No cell of these rows narrows 'for every input' (looked for: loops, veiled, ifaces, maps, wideKeys, modest, calm, conditions, laid).
  DERIVED. THE GIVEN ROWS OF THIS SEAT. 6 by the template 'for every input the law returns true; each argument reads behind the call as it read before'; 0 by the template 'total and deterministic' (their statements: YtbjnkhlepmocjaaTotals.lean).
  GIVEN WITH THE SEED: the statements are not yours to turn. If you find one false, say at which input.
  Laid BY PROGRAM, IN A SANDBOX (cutbox-rows.mjs): the forced cells as the released guide's own fill.sh prints them over the translation b757f1cbc0627f11… (all of the seat's roots in one cut). By AI agents, Wed Nov 11 2026. No macro, syntax, notation, axiom, sorry.
-/
import Derived.Test.YtbjnkhlepmocjaaChecked
import GoSem.Claim
import GoSem.ClaimJoined
import GoSem.ClaimMapViews
import Derived.JoinedTies
import Derived.KernelRfl
namespace Go.Proofs.Ytbjnkhlepmocjaa
/- THE CELL 'sum', in the pinned program and in every row, IS THE sha256 OF THE DUMP (.gsa) THAT YtbjnkhlepmocjaaProg.lean LOADS. Nothing in Lean hashes anything: it is a label: what it is worth is what the hold of that sum in a sandbox is worth. -/
noncomputable def Try.pinned : Pinned := { name := "ytbjnkhlepmocjaa", sum := "b757f1cbc0627f1149edce187e904636280868eadc5742b1a866621b3a2573f2", checked := Try.checked }
namespace Rows
def none {H : Type} : Left H := { results := [], args := [] }

/-- 'sandglasslaw02.NumsReckons': WHATEVER THE INPUT: true; the input reads as it did. -/
def numsReckonsSpec : ChangeSpec := { name := "numsReckons", fn := fun _ => fun
  | [d1, d2, d3] => { results := [.lit (.bool true)], args := [d1, d2, d3] }
  | _ => none }
def numsReckonsRow : OpenClaim := { program := "ytbjnkhlepmocjaa", sum := "b757f1cbc0627f1149edce187e904636280868eadc5742b1a866621b3a2573f2", func := "sandglass/sandglasslaw02.NumsReckons", spec := "numsReckons", apart := false }
def NumsReckonsSaid : Prop := numsReckonsRow.holds Try.pinned (OpenSpec.ofChange numsReckonsSpec)

/-- ITS FALSE NEIGHBOUR: 'it returns false'. Refute it at one input. -/
def numsReckonsWrong : ChangeSpec := { name := "numsReckons", fn := fun _ => fun
  | [d1, d2, d3] => { results := [.lit (.bool false)], args := [d1, d2, d3] }
  | _ => none }
def NumsReckonsWrongFalsely : Prop := numsReckonsRow.holds Try.pinned (OpenSpec.ofChange numsReckonsWrong)

/-- 'sandglasslaw02.NumsBytes': WHATEVER THE INPUT: true; the input reads as it did. -/
def numsBytesSpec : ChangeSpec := { name := "numsBytes", fn := fun _ => fun
  | [d1, d2, d3] => { results := [.lit (.bool true)], args := [d1, d2, d3] }
  | _ => none }
def numsBytesRow : OpenClaim := { program := "ytbjnkhlepmocjaa", sum := "b757f1cbc0627f1149edce187e904636280868eadc5742b1a866621b3a2573f2", func := "sandglass/sandglasslaw02.NumsBytes", spec := "numsBytes", apart := false }
def NumsBytesSaid : Prop := numsBytesRow.holds Try.pinned (OpenSpec.ofChange numsBytesSpec)

/-- ITS FALSE NEIGHBOUR: 'it returns false'. Refute it at one input. -/
def numsBytesWrong : ChangeSpec := { name := "numsBytes", fn := fun _ => fun
  | [d1, d2, d3] => { results := [.lit (.bool false)], args := [d1, d2, d3] }
  | _ => none }
def NumsBytesWrongFalsely : Prop := numsBytesRow.holds Try.pinned (OpenSpec.ofChange numsBytesWrong)

/-- 'sandglasslaw02.NumsTexts': WHATEVER THE INPUT: true; the input reads as it did. -/
def numsTextsSpec : ChangeSpec := { name := "numsTexts", fn := fun _ => fun
  | [d1, d2] => { results := [.lit (.bool true)], args := [d1, d2] }
  | _ => none }
def numsTextsRow : OpenClaim := { program := "ytbjnkhlepmocjaa", sum := "b757f1cbc0627f1149edce187e904636280868eadc5742b1a866621b3a2573f2", func := "sandglass/sandglasslaw02.NumsTexts", spec := "numsTexts", apart := false }
def NumsTextsSaid : Prop := numsTextsRow.holds Try.pinned (OpenSpec.ofChange numsTextsSpec)

/-- ITS FALSE NEIGHBOUR: 'it returns false'. Refute it at one input. -/
def numsTextsWrong : ChangeSpec := { name := "numsTexts", fn := fun _ => fun
  | [d1, d2] => { results := [.lit (.bool false)], args := [d1, d2] }
  | _ => none }
def NumsTextsWrongFalsely : Prop := numsTextsRow.holds Try.pinned (OpenSpec.ofChange numsTextsWrong)

/-- 'sandglasslaw02.NumsBack': WHATEVER THE INPUT: true; the input reads as it did. -/
def numsBackSpec : ChangeSpec := { name := "numsBack", fn := fun _ => fun
  | [d1, d2, d3] => { results := [.lit (.bool true)], args := [d1, d2, d3] }
  | _ => none }
def numsBackRow : OpenClaim := { program := "ytbjnkhlepmocjaa", sum := "b757f1cbc0627f1149edce187e904636280868eadc5742b1a866621b3a2573f2", func := "sandglass/sandglasslaw02.NumsBack", spec := "numsBack", apart := false }
def NumsBackSaid : Prop := numsBackRow.holds Try.pinned (OpenSpec.ofChange numsBackSpec)

/-- ITS FALSE NEIGHBOUR: 'it returns false'. Refute it at one input. -/
def numsBackWrong : ChangeSpec := { name := "numsBack", fn := fun _ => fun
  | [d1, d2, d3] => { results := [.lit (.bool false)], args := [d1, d2, d3] }
  | _ => none }
def NumsBackWrongFalsely : Prop := numsBackRow.holds Try.pinned (OpenSpec.ofChange numsBackWrong)

/-- 'sandglasslaw02.NumsLaws': WHATEVER THE INPUT: true; the input reads as it did. -/
def numsLawsSpec : ChangeSpec := { name := "numsLaws", fn := fun _ => fun
  | [d1, d2, d3] => { results := [.lit (.bool true)], args := [d1, d2, d3] }
  | _ => none }
def numsLawsRow : OpenClaim := { program := "ytbjnkhlepmocjaa", sum := "b757f1cbc0627f1149edce187e904636280868eadc5742b1a866621b3a2573f2", func := "sandglass/sandglasslaw02.NumsLaws", spec := "numsLaws", apart := false }
def NumsLawsSaid : Prop := numsLawsRow.holds Try.pinned (OpenSpec.ofChange numsLawsSpec)

/-- ITS FALSE NEIGHBOUR: 'it returns false'. Refute it at one input. -/
def numsLawsWrong : ChangeSpec := { name := "numsLaws", fn := fun _ => fun
  | [d1, d2, d3] => { results := [.lit (.bool false)], args := [d1, d2, d3] }
  | _ => none }
def NumsLawsWrongFalsely : Prop := numsLawsRow.holds Try.pinned (OpenSpec.ofChange numsLawsWrong)

/-- 'sandglasslaw02.NumsCaps': WHATEVER THE INPUT: true; the input reads as it did. -/
def numsCapsSpec : ChangeSpec := { name := "numsCaps", fn := fun _ => fun
  | [d1, d2, d3] => { results := [.lit (.bool true)], args := [d1, d2, d3] }
  | _ => none }
def numsCapsRow : OpenClaim := { program := "ytbjnkhlepmocjaa", sum := "b757f1cbc0627f1149edce187e904636280868eadc5742b1a866621b3a2573f2", func := "sandglass/sandglasslaw02.NumsCaps", spec := "numsCaps", apart := false }
def NumsCapsSaid : Prop := numsCapsRow.holds Try.pinned (OpenSpec.ofChange numsCapsSpec)

/-- ITS FALSE NEIGHBOUR: 'it returns false'. Refute it at one input. -/
def numsCapsWrong : ChangeSpec := { name := "numsCaps", fn := fun _ => fun
  | [d1, d2, d3] => { results := [.lit (.bool false)], args := [d1, d2, d3] }
  | _ => none }
def NumsCapsWrongFalsely : Prop := numsCapsRow.holds Try.pinned (OpenSpec.ofChange numsCapsWrong)

/- THE SECOND FORM. 'bulk': how many values and letters a reading holds, each counted each time it is reached (what is shared counts as often as it is met; a slice's spare places count too). A statement '..UptoSaid' is the law's where the arguments, and the package variables that the reading takes, are together of bulk at most 1048576: NARROWER than '..Said'. Prove '..Said' where nothing that the law and all that it calls make is longer than what came in: it says more and counts as full. Else prove '..UptoSaid'. A law counts once. -/
mutual
def uptoBulk {H : Type} : DataW H → Nat
  | .lit (.string bytes) => bytes.length + 1
  | .lit _ => 1
  | .nil => 1
  | .ptr d => uptoBulk d + 1
  | .slice elems spare => uptoBulkAll elems + uptoBulkAll spare + 1
  | .agg parts => uptoBulkAll parts + 1
  | .iface _ d => uptoBulk d + 1
  | .map entries => uptoBulkEntries entries + 1
  | .held _ => 1
def uptoBulkAll {H : Type} : List (DataW H) → Nat
  | [] => 0
  | d :: r => uptoBulk d + uptoBulkAll r
def uptoBulkEntries {H : Type} : List (Lit × DataW H) → Nat
  | [] => 0
  | x :: r => uptoBulkEntry x + uptoBulkEntries r
def uptoBulkEntry {H : Type} : Lit × DataW H → Nat
  | (.string bytes, d) => bytes.length + uptoBulk d + 1
  | (_, d) => uptoBulk d + 1
 end
def uptoSmall : (H : Type) → List (DataW H) → Bool := fun _ ds => decide (uptoBulkAll ds ≤ 1048576)
def OpenSpec.upto (s : _root_.Go.ChangeSpec) : _root_.Go.OpenSpec := { _root_.Go.OpenSpec.ofChange s with cond := some uptoSmall }

/-- 'sandglasslaw02.NumsReckons', WHERE WHAT IT READS IS OF BULK AT MOST 1048576: true; the input reads as it did. -/
def numsReckonsUptoRow : OpenClaim := { program := "ytbjnkhlepmocjaa", sum := "b757f1cbc0627f1149edce187e904636280868eadc5742b1a866621b3a2573f2", func := "sandglass/sandglasslaw02.NumsReckons", spec := "numsReckons", apart := false, narrowed := true }
def NumsReckonsUptoSaid : Prop := numsReckonsUptoRow.holds Try.pinned (OpenSpec.upto numsReckonsSpec)

/-- 'sandglasslaw02.NumsBytes', WHERE WHAT IT READS IS OF BULK AT MOST 1048576: true; the input reads as it did. -/
def numsBytesUptoRow : OpenClaim := { program := "ytbjnkhlepmocjaa", sum := "b757f1cbc0627f1149edce187e904636280868eadc5742b1a866621b3a2573f2", func := "sandglass/sandglasslaw02.NumsBytes", spec := "numsBytes", apart := false, narrowed := true }
def NumsBytesUptoSaid : Prop := numsBytesUptoRow.holds Try.pinned (OpenSpec.upto numsBytesSpec)

/-- 'sandglasslaw02.NumsTexts', WHERE WHAT IT READS IS OF BULK AT MOST 1048576: true; the input reads as it did. -/
def numsTextsUptoRow : OpenClaim := { program := "ytbjnkhlepmocjaa", sum := "b757f1cbc0627f1149edce187e904636280868eadc5742b1a866621b3a2573f2", func := "sandglass/sandglasslaw02.NumsTexts", spec := "numsTexts", apart := false, narrowed := true }
def NumsTextsUptoSaid : Prop := numsTextsUptoRow.holds Try.pinned (OpenSpec.upto numsTextsSpec)

/-- 'sandglasslaw02.NumsBack', WHERE WHAT IT READS IS OF BULK AT MOST 1048576: true; the input reads as it did. -/
def numsBackUptoRow : OpenClaim := { program := "ytbjnkhlepmocjaa", sum := "b757f1cbc0627f1149edce187e904636280868eadc5742b1a866621b3a2573f2", func := "sandglass/sandglasslaw02.NumsBack", spec := "numsBack", apart := false, narrowed := true }
def NumsBackUptoSaid : Prop := numsBackUptoRow.holds Try.pinned (OpenSpec.upto numsBackSpec)

/-- 'sandglasslaw02.NumsLaws', WHERE WHAT IT READS IS OF BULK AT MOST 1048576: true; the input reads as it did. -/
def numsLawsUptoRow : OpenClaim := { program := "ytbjnkhlepmocjaa", sum := "b757f1cbc0627f1149edce187e904636280868eadc5742b1a866621b3a2573f2", func := "sandglass/sandglasslaw02.NumsLaws", spec := "numsLaws", apart := false, narrowed := true }
def NumsLawsUptoSaid : Prop := numsLawsUptoRow.holds Try.pinned (OpenSpec.upto numsLawsSpec)

/-- 'sandglasslaw02.NumsCaps', WHERE WHAT IT READS IS OF BULK AT MOST 1048576: true; the input reads as it did. -/
def numsCapsUptoRow : OpenClaim := { program := "ytbjnkhlepmocjaa", sum := "b757f1cbc0627f1149edce187e904636280868eadc5742b1a866621b3a2573f2", func := "sandglass/sandglasslaw02.NumsCaps", spec := "numsCaps", apart := false, narrowed := true }
def NumsCapsUptoSaid : Prop := numsCapsUptoRow.holds Try.pinned (OpenSpec.upto numsCapsSpec)

end Rows
end Go.Proofs.Ytbjnkhlepmocjaa
