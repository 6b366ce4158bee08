/- HashBack: proved of the printed functions. -/
import Derived.Test.YtkjhhiiickcebaaStHashBack
import Derived.Test.YtkjhhiiickcebaaHashLa
namespace Go.Proofs.Ytkjhhiiickcebaa.hashBack
open Go.RowKit Go.Proofs.YtkjhhiiickcebaaW.PrintWords Go.Proofs.YtkjhhiiickcebaaW.PrintLast Go.Proofs.YtkjhhiiickcebaaW.PrintMore Go.Proofs.Ytkjhhiiickcebaa.Q Go.Proofs.Ytkjhhiiickcebaa.La
set_option linter.unusedSimpArgs false
set_option linter.unusedVariables false
theorem pure : Pure := by
  intro a b wa wb
  have ha : U a := u64_is wa
  have hb : U b := u64_is wb
  refine ⟨60, ?_⟩
  unfold sandglasslaw03_HashBack.f
  rw [mix_f, Option.bind_some, unmix_f, Option.bind_some, if_pos (un_mix ha), unmix_f, Option.bind_some, mix_f, Option.bind_some, if_pos (mix_un ha), Option.bind_some, mix_f, Option.bind_some, if_pos (beq_iff ⟨mix_inj ha hb, fun h => by rw [h]⟩), live_at (show 40 ≤ 60 by omega), Option.bind_some]
end Go.Proofs.Ytkjhhiiickcebaa.hashBack
