/- HashSeeds: proved of the printed functions. -/
import Derived.Test.YtkjhhiiickcebaaStHashSeeds
import Derived.Test.YtkjhhiiickcebaaHashLa
namespace Go.Proofs.Ytkjhhiiickcebaa.hashSeeds
open Go.RowKit Go.Proofs.YtkjhhiiickcebaaW.PrintWords Go.Proofs.YtkjhhiiickcebaaW.PrintLast Go.Proofs.YtkjhhiiickcebaaW.PrintMore Go.Proofs.Ytkjhhiiickcebaa.Q Go.Proofs.Ytkjhhiiickcebaa.La
set_option linter.unusedSimpArgs false
set_option linter.unusedVariables false
theorem pure : Pure := by
  intro s a b c d hs wa wb wc wd
  have ha : U a := u64_is wa
  have hb : U b := u64_is wb
  have hc := i64_is wc
  have hd := i64_is wd
  refine ⟨60, ?_⟩
  unfold sandglasslaw03_HashSeeds.f hash_Name.f
  by_cases h : (s.size : Int) > 100
  · rw [if_pos h]; simp only [live_at (show 40 ≤ 60 by omega), Option.bind_some]
  rw [if_neg h]
  have hz : s.size ≤ 1000000 := by omega
  rw [sum_f _ s hz, Option.bind_some, sum_f _ s hz, Option.bind_some, mix_f, Option.bind_some, sum_f _ s hz, Option.bind_some, Option.bind_some, mix_f, Option.bind_some, sum_f _ s hz, Option.bind_some, Option.bind_some, if_pos (beq_iff (sumI_seed ha hb hz)), live_at (show 40 ≤ 60 by omega), Option.bind_some, if_pos]
  apply beq_iff
  rw [sumI_seed (U.mix (U.xor _ _)) (U.mix (U.xor _ _)) (by omega)]
  constructor
  · intro h1
    have h2 := xor_left ha (U.wrap _) (U.wrap _) (mix_inj (U.xor _ _) (U.xor _ _) h1)
    rw [uwm, uwm] at h2
    omega
  · intro h1; rw [h1]
end Go.Proofs.Ytkjhhiiickcebaa.hashSeeds
