-- Laid by wip/tools/hprint.py, a program of this repo, over the kit's print; not a text of print.sh.
import Derived.Test.YteljllpkjhkanaaQ0
import Derived.Test.YteljllpkjhkanaaQ3
namespace Go.Proofs.Yteljllpkjhkanaa.Q
open Go.RowKit Go.Proofs.Yteljllpkjhkanaa.Zip Go.Proofs.YteljllpkjhkanaaW.PrintWords Go.Proofs.YteljllpkjhkanaaW.PrintLast Go.Proofs.YteljllpkjhkanaaW.PrintMore
attribute [local go_sem] max2_int min2_int max_two min_two max_three min_three max_four min_four   -- for this text's walks alone
set_option linter.unusedVariables false
set_option linter.unusedSimpArgs false

/-! ### frame_Reader_Left: given by hand -/
def frame_Reader_Left.f : Option Int := some 0
theorem frame_Reader_Left.calls (g : Nat) (l : ByteArray) (sk : Int) (m : Bool) (w : World) (hb : w.heap[g]? = some (rdO l sk m)) : Calls Try.prog 12 #[.pointer (some ⟨g, 0, none⟩)] w fun e w' => e = .returned (.int .i64 (l.size : Int)) ∧ w' = w := by
  have c0 : w.cell? ⟨g, 0, none⟩ = some (.string l) := (blk_cell (show w.heap[g]? = some (.cells _ _ _) from hb) 0).trans rfl
  go_enter Try.func12, Try.ntmps12
  go_wp2
  go_ret
  exact ⟨rfl, rfl⟩

end Go.Proofs.Yteljllpkjhkanaa.Q
