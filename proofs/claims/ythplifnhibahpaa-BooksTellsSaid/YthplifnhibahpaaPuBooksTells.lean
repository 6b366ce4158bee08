/- BooksTells: proved of the printed functions. -/
import Derived.Test.YthplifnhibahpaaStBooksTells
import Derived.Test.YthplifnhibahpaaBooksLa
namespace Go.Proofs.Ythplifnhibahpaa.booksTells
open Go.RowKit Go.Proofs.YthplifnhibahpaaW.PrintWords Go.Proofs.YthplifnhibahpaaW.PrintLast Go.Proofs.YthplifnhibahpaaW.PrintMore Go.Proofs.Ythplifnhibahpaa.Q Go.Proofs.Ythplifnhibahpaa.La
set_option linter.unusedSimpArgs false
set_option linter.unusedVariables false
theorem pure : Pure := by
  intro l i _ _
  refine ⟨3000, ?_⟩
  unfold sandglasslaw16_BooksTells.f
  rw [live_at (show 40 ≤ 3000 by omega)]
  by_cases hl : (l.length : Int) > 20
  · rw [if_pos hl]; rfl
  rw [if_neg hl, get_f (show 12 ≤ 3000 by omega), get_r (show 60 ≤ 3000 by omega), may_f (show 12 ≤ 3000 by omega), may_r (show 60 ≤ 3000 by omega), live_f (show 1002 ≤ 3000 by omega) (show l.length ≤ 1000 by omega), live_r (show 1002 ≤ 3000 by omega) (show l.length ≤ 1000 by omega)]
  have h1 := liveL_len l 0
  simp only [Option.bind_some, BEq.rfl, Bool.and_self, if_true, ints_f (show 1002 ≤ 3000 by omega) (show (liveL l 0).length ≤ 1000 by omega), new_f, new_r, same_f (show 1002 ≤ 3000 by omega) (show (List.replicate 8 z43).length ≤ 1000 by simp)]
end Go.Proofs.Ythplifnhibahpaa.booksTells
