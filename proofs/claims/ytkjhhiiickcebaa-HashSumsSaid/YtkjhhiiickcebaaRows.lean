/-
  No cell of these rows narrows 'for every input' (looked for: loops, veiled, ifaces, maps, wideKeys, modest, calm, conditions, laid).
  DERIVED. THE GIVEN ROWS OF THIS SEAT. 6 by the template 'for every input the law returns true; each argument reads behind the call as it read before'; 0 by the template 'total and deterministic' (their statements: YtkjhhiiickcebaaTotals.lean).
  GIVEN WITH THE SEED: the statements are not yours to turn. If you find one false, say at which input.
  Laid BY PROGRAM, IN A SANDBOX (cutbox-rows.mjs): the forced cells as the released guide's own fill.sh prints them over the translation 442461606a3732ea… (all of the seat's roots in one cut). By AI agents, Wed Nov 11 2026. No macro, syntax, notation, axiom, sorry.
-/
import Derived.Test.YtkjhhiiickcebaaChecked
import GoSem.Claim
import GoSem.ClaimJoined
import GoSem.ClaimMapViews
import Derived.JoinedTies
import Derived.KernelRfl
namespace Go.Proofs.Ytkjhhiiickcebaa
/- THE CELL 'sum', in the pinned program and in every row, IS THE sha256 OF THE DUMP (.gsa) THAT YtkjhhiiickcebaaProg.lean LOADS. Nothing in Lean hashes anything: it is a label: what it is worth is what the hold of that sum in a sandbox is worth. -/
noncomputable def Try.pinned : Pinned := { name := "ytkjhhiiickcebaa", sum := "442461606a3732ea52a2d8ed17d7052f0fc6b670b2958c7f7d67c1e40dd67203", checked := Try.checked }
namespace Rows
def none {H : Type} : Left H := { results := [], args := [] }

/-- 'sandglasslaw03.HashBack': WHATEVER THE INPUT: true; the input reads as it did. -/
def hashBackSpec : ChangeSpec := { name := "hashBack", fn := fun _ => fun
  | [d1, d2] => { results := [.lit (.bool true)], args := [d1, d2] }
  | _ => none }
def hashBackRow : OpenClaim := { program := "ytkjhhiiickcebaa", sum := "442461606a3732ea52a2d8ed17d7052f0fc6b670b2958c7f7d67c1e40dd67203", func := "sandglass/sandglasslaw03.HashBack", spec := "hashBack", apart := false }
def HashBackSaid : Prop := hashBackRow.holds Try.pinned (OpenSpec.ofChange hashBackSpec)

/-- ITS FALSE NEIGHBOUR: 'it returns false'. Refute it at one input. -/
def hashBackWrong : ChangeSpec := { name := "hashBack", fn := fun _ => fun
  | [d1, d2] => { results := [.lit (.bool false)], args := [d1, d2] }
  | _ => none }
def HashBackWrongFalsely : Prop := hashBackRow.holds Try.pinned (OpenSpec.ofChange hashBackWrong)

/-- 'sandglasslaw03.HashLast': WHATEVER THE INPUT: true; the input reads as it did. -/
def hashLastSpec : ChangeSpec := { name := "hashLast", fn := fun _ => fun
  | [d1, d2, d3] => { results := [.lit (.bool true)], args := [d1, d2, d3] }
  | _ => none }
def hashLastRow : OpenClaim := { program := "ytkjhhiiickcebaa", sum := "442461606a3732ea52a2d8ed17d7052f0fc6b670b2958c7f7d67c1e40dd67203", func := "sandglass/sandglasslaw03.HashLast", spec := "hashLast", apart := false }
def HashLastSaid : Prop := hashLastRow.holds Try.pinned (OpenSpec.ofChange hashLastSpec)

/-- ITS FALSE NEIGHBOUR: 'it returns false'. Refute it at one input. -/
def hashLastWrong : ChangeSpec := { name := "hashLast", fn := fun _ => fun
  | [d1, d2, d3] => { results := [.lit (.bool false)], args := [d1, d2, d3] }
  | _ => none }
def HashLastWrongFalsely : Prop := hashLastRow.holds Try.pinned (OpenSpec.ofChange hashLastWrong)

/-- 'sandglasslaw03.HashHomes': WHATEVER THE INPUT: true; the input reads as it did. -/
def hashHomesSpec : ChangeSpec := { name := "hashHomes", fn := fun _ => fun
  | [d1, d2] => { results := [.lit (.bool true)], args := [d1, d2] }
  | _ => none }
def hashHomesRow : OpenClaim := { program := "ytkjhhiiickcebaa", sum := "442461606a3732ea52a2d8ed17d7052f0fc6b670b2958c7f7d67c1e40dd67203", func := "sandglass/sandglasslaw03.HashHomes", spec := "hashHomes", apart := false }
def HashHomesSaid : Prop := hashHomesRow.holds Try.pinned (OpenSpec.ofChange hashHomesSpec)

/-- ITS FALSE NEIGHBOUR: 'it returns false'. Refute it at one input. -/
def hashHomesWrong : ChangeSpec := { name := "hashHomes", fn := fun _ => fun
  | [d1, d2] => { results := [.lit (.bool false)], args := [d1, d2] }
  | _ => none }
def HashHomesWrongFalsely : Prop := hashHomesRow.holds Try.pinned (OpenSpec.ofChange hashHomesWrong)

/-- 'sandglasslaw03.HashSums': WHATEVER THE INPUT: true; the input reads as it did. -/
def hashSumsSpec : ChangeSpec := { name := "hashSums", fn := fun _ => fun
  | [d1, d2, d3] => { results := [.lit (.bool true)], args := [d1, d2, d3] }
  | _ => none }
def hashSumsRow : OpenClaim := { program := "ytkjhhiiickcebaa", sum := "442461606a3732ea52a2d8ed17d7052f0fc6b670b2958c7f7d67c1e40dd67203", func := "sandglass/sandglasslaw03.HashSums", spec := "hashSums", apart := false }
def HashSumsSaid : Prop := hashSumsRow.holds Try.pinned (OpenSpec.ofChange hashSumsSpec)

/-- ITS FALSE NEIGHBOUR: 'it returns false'. Refute it at one input. -/
def hashSumsWrong : ChangeSpec := { name := "hashSums", fn := fun _ => fun
  | [d1, d2, d3] => { results := [.lit (.bool false)], args := [d1, d2, d3] }
  | _ => none }
def HashSumsWrongFalsely : Prop := hashSumsRow.holds Try.pinned (OpenSpec.ofChange hashSumsWrong)

/-- 'sandglasslaw03.HashSeeds': WHATEVER THE INPUT: true; the input reads as it did. -/
def hashSeedsSpec : ChangeSpec := { name := "hashSeeds", fn := fun _ => fun
  | [d1, d2, d3] => { results := [.lit (.bool true)], args := [d1, d2, d3] }
  | _ => none }
def hashSeedsRow : OpenClaim := { program := "ytkjhhiiickcebaa", sum := "442461606a3732ea52a2d8ed17d7052f0fc6b670b2958c7f7d67c1e40dd67203", func := "sandglass/sandglasslaw03.HashSeeds", spec := "hashSeeds", apart := false }
def HashSeedsSaid : Prop := hashSeedsRow.holds Try.pinned (OpenSpec.ofChange hashSeedsSpec)

/-- ITS FALSE NEIGHBOUR: 'it returns false'. Refute it at one input. -/
def hashSeedsWrong : ChangeSpec := { name := "hashSeeds", fn := fun _ => fun
  | [d1, d2, d3] => { results := [.lit (.bool false)], args := [d1, d2, d3] }
  | _ => none }
def HashSeedsWrongFalsely : Prop := hashSeedsRow.holds Try.pinned (OpenSpec.ofChange hashSeedsWrong)

/-- 'sandglasslaw03.HashNames': WHATEVER THE INPUT: true; the input reads as it did. -/
def hashNamesSpec : ChangeSpec := { name := "hashNames", fn := fun _ => fun
  | [d1, d2, d3] => { results := [.lit (.bool true)], args := [d1, d2, d3] }
  | _ => none }
def hashNamesRow : OpenClaim := { program := "ytkjhhiiickcebaa", sum := "442461606a3732ea52a2d8ed17d7052f0fc6b670b2958c7f7d67c1e40dd67203", func := "sandglass/sandglasslaw03.HashNames", spec := "hashNames", apart := false }
def HashNamesSaid : Prop := hashNamesRow.holds Try.pinned (OpenSpec.ofChange hashNamesSpec)

/-- ITS FALSE NEIGHBOUR: 'it returns false'. Refute it at one input. -/
def hashNamesWrong : ChangeSpec := { name := "hashNames", fn := fun _ => fun
  | [d1, d2, d3] => { results := [.lit (.bool false)], args := [d1, d2, d3] }
  | _ => none }
def HashNamesWrongFalsely : Prop := hashNamesRow.holds Try.pinned (OpenSpec.ofChange hashNamesWrong)

/- THE SECOND FORM. 'bulk': how many values and letters a reading holds, each counted each time it is reached (what is shared counts as often as it is met; a slice's spare places count too). A statement '..UptoSaid' is the law's where the arguments, and the package variables that the reading takes, are together of bulk at most 1048576: NARROWER than '..Said'. Prove '..Said' where nothing that the law and all that it calls make is longer than what came in: it says more and counts as full. Else prove '..UptoSaid'. A law counts once. -/
mutual
def uptoBulk {H : Type} : DataW H → Nat
  | .lit (.string bytes) => bytes.length + 1
  | .lit _ => 1
  | .nil => 1
  | .ptr d => uptoBulk d + 1
  | .slice elems spare => uptoBulkAll elems + uptoBulkAll spare + 1
  | .agg parts => uptoBulkAll parts + 1
  | .iface _ d => uptoBulk d + 1
  | .map entries => uptoBulkEntries entries + 1
  | .held _ => 1
def uptoBulkAll {H : Type} : List (DataW H) → Nat
  | [] => 0
  | d :: r => uptoBulk d + uptoBulkAll r
def uptoBulkEntries {H : Type} : List (Lit × DataW H) → Nat
  | [] => 0
  | x :: r => uptoBulkEntry x + uptoBulkEntries r
def uptoBulkEntry {H : Type} : Lit × DataW H → Nat
  | (.string bytes, d) => bytes.length + uptoBulk d + 1
  | (_, d) => uptoBulk d + 1
 end
def uptoSmall : (H : Type) → List (DataW H) → Bool := fun _ ds => decide (uptoBulkAll ds ≤ 1048576)
def OpenSpec.upto (s : _root_.Go.ChangeSpec) : _root_.Go.OpenSpec := { _root_.Go.OpenSpec.ofChange s with cond := some uptoSmall }

/-- 'sandglasslaw03.HashBack', WHERE WHAT IT READS IS OF BULK AT MOST 1048576: true; the input reads as it did. -/
def hashBackUptoRow : OpenClaim := { program := "ytkjhhiiickcebaa", sum := "442461606a3732ea52a2d8ed17d7052f0fc6b670b2958c7f7d67c1e40dd67203", func := "sandglass/sandglasslaw03.HashBack", spec := "hashBack", apart := false, narrowed := true }
def HashBackUptoSaid : Prop := hashBackUptoRow.holds Try.pinned (OpenSpec.upto hashBackSpec)

/-- 'sandglasslaw03.HashLast', WHERE WHAT IT READS IS OF BULK AT MOST 1048576: true; the input reads as it did. -/
def hashLastUptoRow : OpenClaim := { program := "ytkjhhiiickcebaa", sum := "442461606a3732ea52a2d8ed17d7052f0fc6b670b2958c7f7d67c1e40dd67203", func := "sandglass/sandglasslaw03.HashLast", spec := "hashLast", apart := false, narrowed := true }
def HashLastUptoSaid : Prop := hashLastUptoRow.holds Try.pinned (OpenSpec.upto hashLastSpec)

/-- 'sandglasslaw03.HashHomes', WHERE WHAT IT READS IS OF BULK AT MOST 1048576: true; the input reads as it did. -/
def hashHomesUptoRow : OpenClaim := { program := "ytkjhhiiickcebaa", sum := "442461606a3732ea52a2d8ed17d7052f0fc6b670b2958c7f7d67c1e40dd67203", func := "sandglass/sandglasslaw03.HashHomes", spec := "hashHomes", apart := false, narrowed := true }
def HashHomesUptoSaid : Prop := hashHomesUptoRow.holds Try.pinned (OpenSpec.upto hashHomesSpec)

/-- 'sandglasslaw03.HashSums', WHERE WHAT IT READS IS OF BULK AT MOST 1048576: true; the input reads as it did. -/
def hashSumsUptoRow : OpenClaim := { program := "ytkjhhiiickcebaa", sum := "442461606a3732ea52a2d8ed17d7052f0fc6b670b2958c7f7d67c1e40dd67203", func := "sandglass/sandglasslaw03.HashSums", spec := "hashSums", apart := false, narrowed := true }
def HashSumsUptoSaid : Prop := hashSumsUptoRow.holds Try.pinned (OpenSpec.upto hashSumsSpec)

/-- 'sandglasslaw03.HashSeeds', WHERE WHAT IT READS IS OF BULK AT MOST 1048576: true; the input reads as it did. -/
def hashSeedsUptoRow : OpenClaim := { program := "ytkjhhiiickcebaa", sum := "442461606a3732ea52a2d8ed17d7052f0fc6b670b2958c7f7d67c1e40dd67203", func := "sandglass/sandglasslaw03.HashSeeds", spec := "hashSeeds", apart := false, narrowed := true }
def HashSeedsUptoSaid : Prop := hashSeedsUptoRow.holds Try.pinned (OpenSpec.upto hashSeedsSpec)

/-- 'sandglasslaw03.HashNames', WHERE WHAT IT READS IS OF BULK AT MOST 1048576: true; the input reads as it did. -/
def hashNamesUptoRow : OpenClaim := { program := "ytkjhhiiickcebaa", sum := "442461606a3732ea52a2d8ed17d7052f0fc6b670b2958c7f7d67c1e40dd67203", func := "sandglass/sandglasslaw03.HashNames", spec := "hashNames", apart := false, narrowed := true }
def HashNamesUptoSaid : Prop := hashNamesUptoRow.holds Try.pinned (OpenSpec.upto hashNamesSpec)

end Rows
end Go.Proofs.Ytkjhhiiickcebaa
