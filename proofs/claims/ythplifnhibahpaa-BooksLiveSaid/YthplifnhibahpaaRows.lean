/-
  No cell of these rows narrows 'for every input' (looked for: loops, veiled, ifaces, maps, wideKeys, modest, calm, conditions, laid).
  DERIVED. THE GIVEN ROWS OF THIS SEAT. 5 by the template 'for every input the law returns true; each argument reads behind the call as it read before'; 0 by the template 'total and deterministic' (their statements: YthplifnhibahpaaTotals.lean).
  GIVEN WITH THE SEED: the statements are not yours to turn. If you find one false, say at which input.
  Laid BY PROGRAM, IN A SANDBOX (cutbox-rows.mjs): the forced cells as the released guide's own fill.sh prints them over the translation 572c1379e8de3187… (all of the seat's roots in one cut). By AI agents, Wed Nov 11 2026. No macro, syntax, notation, axiom, sorry.
-/
import Derived.Test.YthplifnhibahpaaChecked
import GoSem.Claim
import GoSem.ClaimJoined
import GoSem.ClaimMapViews
import Derived.JoinedTies
import Derived.KernelRfl
namespace Go.Proofs.Ythplifnhibahpaa
/- THE CELL 'sum', in the pinned program and in every row, IS THE sha256 OF THE DUMP (.gsa) THAT YthplifnhibahpaaProg.lean LOADS. Nothing in Lean hashes anything: it is a label: what it is worth is what the hold of that sum in a sandbox is worth. -/
noncomputable def Try.pinned : Pinned := { name := "ythplifnhibahpaa", sum := "572c1379e8de3187a14c62252ac73a9ea19efd575171513963eb466a9e8cc819", checked := Try.checked }
namespace Rows
def none {H : Type} : Left H := { results := [], args := [] }

/-- 'sandglasslaw16.BooksTells': WHATEVER THE INPUT: true; the input reads as it did. -/
def booksTellsSpec : ChangeSpec := { name := "booksTells", fn := fun _ => fun
  | [d1, d2] => { results := [.lit (.bool true)], args := [d1, d2] }
  | _ => none }
def booksTellsRow : OpenClaim := { program := "ythplifnhibahpaa", sum := "572c1379e8de3187a14c62252ac73a9ea19efd575171513963eb466a9e8cc819", func := "sandglass/sandglasslaw16.BooksTells", spec := "booksTells", unfollowed := true, recurses := true, apart := false }
def BooksTellsSaid : Prop := booksTellsRow.holds Try.pinned (OpenSpec.ofChange booksTellsSpec)

/-- ITS FALSE NEIGHBOUR: 'it returns false'. Refute it at one input. -/
def booksTellsWrong : ChangeSpec := { name := "booksTells", fn := fun _ => fun
  | [d1, d2] => { results := [.lit (.bool false)], args := [d1, d2] }
  | _ => none }
def BooksTellsWrongFalsely : Prop := booksTellsRow.holds Try.pinned (OpenSpec.ofChange booksTellsWrong)

/-- 'sandglasslaw16.BooksSets': WHATEVER THE INPUT: true; the input reads as it did. -/
def booksSetsSpec : ChangeSpec := { name := "booksSets", fn := fun _ => fun
  | [d1, d2, d3] => { results := [.lit (.bool true)], args := [d1, d2, d3] }
  | _ => none }
def booksSetsRow : OpenClaim := { program := "ythplifnhibahpaa", sum := "572c1379e8de3187a14c62252ac73a9ea19efd575171513963eb466a9e8cc819", func := "sandglass/sandglasslaw16.BooksSets", spec := "booksSets", unfollowed := true, recurses := true, apart := false }
def BooksSetsSaid : Prop := booksSetsRow.holds Try.pinned (OpenSpec.ofChange booksSetsSpec)

/-- ITS FALSE NEIGHBOUR: 'it returns false'. Refute it at one input. -/
def booksSetsWrong : ChangeSpec := { name := "booksSets", fn := fun _ => fun
  | [d1, d2, d3] => { results := [.lit (.bool false)], args := [d1, d2, d3] }
  | _ => none }
def BooksSetsWrongFalsely : Prop := booksSetsRow.holds Try.pinned (OpenSpec.ofChange booksSetsWrong)

/-- 'sandglasslaw16.BooksMay': WHATEVER THE INPUT: true; the input reads as it did. -/
def booksMaySpec : ChangeSpec := { name := "booksMay", fn := fun _ => fun
  | [d1, d2, d3] => { results := [.lit (.bool true)], args := [d1, d2, d3] }
  | _ => none }
def booksMayRow : OpenClaim := { program := "ythplifnhibahpaa", sum := "572c1379e8de3187a14c62252ac73a9ea19efd575171513963eb466a9e8cc819", func := "sandglass/sandglasslaw16.BooksMay", spec := "booksMay", unfollowed := true, recurses := true, apart := false }
def BooksMaySaid : Prop := booksMayRow.holds Try.pinned (OpenSpec.ofChange booksMaySpec)

/-- ITS FALSE NEIGHBOUR: 'it returns false'. Refute it at one input. -/
def booksMayWrong : ChangeSpec := { name := "booksMay", fn := fun _ => fun
  | [d1, d2, d3] => { results := [.lit (.bool false)], args := [d1, d2, d3] }
  | _ => none }
def BooksMayWrongFalsely : Prop := booksMayRow.holds Try.pinned (OpenSpec.ofChange booksMayWrong)

/-- 'sandglasslaw16.BooksVersions': WHATEVER THE INPUT: true; the input reads as it did. -/
def booksVersionsSpec : ChangeSpec := { name := "booksVersions", fn := fun _ => fun
  | [d1, d2] => { results := [.lit (.bool true)], args := [d1, d2] }
  | _ => none }
def booksVersionsRow : OpenClaim := { program := "ythplifnhibahpaa", sum := "572c1379e8de3187a14c62252ac73a9ea19efd575171513963eb466a9e8cc819", func := "sandglass/sandglasslaw16.BooksVersions", spec := "booksVersions", unfollowed := true, recurses := true, apart := false }
def BooksVersionsSaid : Prop := booksVersionsRow.holds Try.pinned (OpenSpec.ofChange booksVersionsSpec)

/-- ITS FALSE NEIGHBOUR: 'it returns false'. Refute it at one input. -/
def booksVersionsWrong : ChangeSpec := { name := "booksVersions", fn := fun _ => fun
  | [d1, d2] => { results := [.lit (.bool false)], args := [d1, d2] }
  | _ => none }
def BooksVersionsWrongFalsely : Prop := booksVersionsRow.holds Try.pinned (OpenSpec.ofChange booksVersionsWrong)

/-- 'sandglasslaw16.BooksLive': WHATEVER THE INPUT: true; the input reads as it did. -/
def booksLiveSpec : ChangeSpec := { name := "booksLive", fn := fun _ => fun
  | [d1, d2] => { results := [.lit (.bool true)], args := [d1, d2] }
  | _ => none }
def booksLiveRow : OpenClaim := { program := "ythplifnhibahpaa", sum := "572c1379e8de3187a14c62252ac73a9ea19efd575171513963eb466a9e8cc819", func := "sandglass/sandglasslaw16.BooksLive", spec := "booksLive", unfollowed := true, recurses := true, apart := false }
def BooksLiveSaid : Prop := booksLiveRow.holds Try.pinned (OpenSpec.ofChange booksLiveSpec)

/-- ITS FALSE NEIGHBOUR: 'it returns false'. Refute it at one input. -/
def booksLiveWrong : ChangeSpec := { name := "booksLive", fn := fun _ => fun
  | [d1, d2] => { results := [.lit (.bool false)], args := [d1, d2] }
  | _ => none }
def BooksLiveWrongFalsely : Prop := booksLiveRow.holds Try.pinned (OpenSpec.ofChange booksLiveWrong)

/- THE SECOND FORM. 'bulk': how many values and letters a reading holds, each counted each time it is reached (what is shared counts as often as it is met; a slice's spare places count too). A statement '..UptoSaid' is the law's where the arguments, and the package variables that the reading takes, are together of bulk at most 1048576: NARROWER than '..Said'. Prove '..Said' where nothing that the law and all that it calls make is longer than what came in: it says more and counts as full. Else prove '..UptoSaid'. A law counts once. -/
mutual
def uptoBulk {H : Type} : DataW H → Nat
  | .lit (.string bytes) => bytes.length + 1
  | .lit _ => 1
  | .nil => 1
  | .ptr d => uptoBulk d + 1
  | .slice elems spare => uptoBulkAll elems + uptoBulkAll spare + 1
  | .agg parts => uptoBulkAll parts + 1
  | .iface _ d => uptoBulk d + 1
  | .map entries => uptoBulkEntries entries + 1
  | .held _ => 1
def uptoBulkAll {H : Type} : List (DataW H) → Nat
  | [] => 0
  | d :: r => uptoBulk d + uptoBulkAll r
def uptoBulkEntries {H : Type} : List (Lit × DataW H) → Nat
  | [] => 0
  | x :: r => uptoBulkEntry x + uptoBulkEntries r
def uptoBulkEntry {H : Type} : Lit × DataW H → Nat
  | (.string bytes, d) => bytes.length + uptoBulk d + 1
  | (_, d) => uptoBulk d + 1
 end
def uptoSmall : (H : Type) → List (DataW H) → Bool := fun _ ds => decide (uptoBulkAll ds ≤ 1048576)
def OpenSpec.upto (s : _root_.Go.ChangeSpec) : _root_.Go.OpenSpec := { _root_.Go.OpenSpec.ofChange s with cond := some uptoSmall }

/-- 'sandglasslaw16.BooksTells', WHERE WHAT IT READS IS OF BULK AT MOST 1048576: true; the input reads as it did. -/
def booksTellsUptoRow : OpenClaim := { program := "ythplifnhibahpaa", sum := "572c1379e8de3187a14c62252ac73a9ea19efd575171513963eb466a9e8cc819", func := "sandglass/sandglasslaw16.BooksTells", spec := "booksTells", unfollowed := true, recurses := true, apart := false, narrowed := true }
def BooksTellsUptoSaid : Prop := booksTellsUptoRow.holds Try.pinned (OpenSpec.upto booksTellsSpec)

/-- 'sandglasslaw16.BooksSets', WHERE WHAT IT READS IS OF BULK AT MOST 1048576: true; the input reads as it did. -/
def booksSetsUptoRow : OpenClaim := { program := "ythplifnhibahpaa", sum := "572c1379e8de3187a14c62252ac73a9ea19efd575171513963eb466a9e8cc819", func := "sandglass/sandglasslaw16.BooksSets", spec := "booksSets", unfollowed := true, recurses := true, apart := false, narrowed := true }
def BooksSetsUptoSaid : Prop := booksSetsUptoRow.holds Try.pinned (OpenSpec.upto booksSetsSpec)

/-- 'sandglasslaw16.BooksMay', WHERE WHAT IT READS IS OF BULK AT MOST 1048576: true; the input reads as it did. -/
def booksMayUptoRow : OpenClaim := { program := "ythplifnhibahpaa", sum := "572c1379e8de3187a14c62252ac73a9ea19efd575171513963eb466a9e8cc819", func := "sandglass/sandglasslaw16.BooksMay", spec := "booksMay", unfollowed := true, recurses := true, apart := false, narrowed := true }
def BooksMayUptoSaid : Prop := booksMayUptoRow.holds Try.pinned (OpenSpec.upto booksMaySpec)

/-- 'sandglasslaw16.BooksVersions', WHERE WHAT IT READS IS OF BULK AT MOST 1048576: true; the input reads as it did. -/
def booksVersionsUptoRow : OpenClaim := { program := "ythplifnhibahpaa", sum := "572c1379e8de3187a14c62252ac73a9ea19efd575171513963eb466a9e8cc819", func := "sandglass/sandglasslaw16.BooksVersions", spec := "booksVersions", unfollowed := true, recurses := true, apart := false, narrowed := true }
def BooksVersionsUptoSaid : Prop := booksVersionsUptoRow.holds Try.pinned (OpenSpec.upto booksVersionsSpec)

/-- 'sandglasslaw16.BooksLive', WHERE WHAT IT READS IS OF BULK AT MOST 1048576: true; the input reads as it did. -/
def booksLiveUptoRow : OpenClaim := { program := "ythplifnhibahpaa", sum := "572c1379e8de3187a14c62252ac73a9ea19efd575171513963eb466a9e8cc819", func := "sandglass/sandglasslaw16.BooksLive", spec := "booksLive", unfollowed := true, recurses := true, apart := false, narrowed := true }
def BooksLiveUptoSaid : Prop := booksLiveUptoRow.holds Try.pinned (OpenSpec.upto booksLiveSpec)

end Rows
end Go.Proofs.Ythplifnhibahpaa
