/- BooksSets: proved of the printed functions. -/
import Derived.Test.YthplifnhibahpaaStBooksSets
import Derived.Test.YthplifnhibahpaaBooksLa
namespace Go.Proofs.Ythplifnhibahpaa.booksSets
open Go.RowKit Go.Proofs.YthplifnhibahpaaW.PrintWords Go.Proofs.YthplifnhibahpaaW.PrintLast Go.Proofs.YthplifnhibahpaaW.PrintMore Go.Proofs.Ythplifnhibahpaa.Q Go.Proofs.Ythplifnhibahpaa.La
set_option linter.unusedSimpArgs false
set_option linter.unusedVariables false
theorem pure : Pure := by
  intro l i a b c d _ _ _ _ _ _
  refine ⟨3000, ?_⟩
  unfold sandglasslaw16_BooksSets.f
  rw [live_at (show 40 ≤ 3000 by omega)]
  by_cases hl : (l.length : Int) > 20
  · rw [if_pos hl]; rfl
  have h1 : (setF l i a b c d).1.length ≤ 1000 := by unfold setF; split <;> (try split) <;> simp <;> omega
  have h2 : (delF l i).1.length ≤ 1000 := by unfold delF; split <;> (try split) <;> simp <;> omega
  rw [if_neg hl, set_f (show 12 ≤ 3000 by omega), set_r (show 60 ≤ 3000 by omega), del_f (show 12 ≤ 3000 by omega), del_r (show 60 ≤ 3000 by omega)]
  simp only [Option.bind_some, same_f (show 1002 ≤ 3000 by omega) h1, same_f (show 1002 ≤ 3000 by omega) h2, if_true]
end Go.Proofs.Ythplifnhibahpaa.booksSets
