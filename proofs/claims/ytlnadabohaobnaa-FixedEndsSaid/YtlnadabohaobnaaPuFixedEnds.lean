/- FixedEnds: proved of the printed functions. -/
import Derived.Test.YtlnadabohaobnaaStFixedEnds
import Derived.Test.YtlnadabohaobnaaFixedLa
import Derived.Test.YtlnadabohaobnaaFixedLive
namespace Go.Proofs.Ytlnadabohaobnaa.fixedEnds
open Go.RowKit Go.Proofs.YtlnadabohaobnaaW.PrintWords Go.Proofs.YtlnadabohaobnaaW.PrintLast Go.Proofs.YtlnadabohaobnaaW.PrintMore Go.Proofs.Ytlnadabohaobnaa.Q Go.Proofs.Ytlnadabohaobnaa.La
set_option linter.unusedSimpArgs false
set_option linter.unusedVariables false
theorem pure : Pure := by
  intro k l w b a v s h n0 x _ _ _ _ _ _ _ _ _ _
  refine ⟨200, ?_⟩
  have T : ∀ x0 x1 x2 x3 y0 y1 y2 y3 z0 z1, sandglasslaw11_FixedEnds.j0 200 true x0 x1 x2 x3 y0 y1 y2 y3 z0 z1 = some true := by
    intros
    simp only [show (200 : Nat) = 199 + 1 by omega, sandglasslaw11_FixedEnds.j0, if_true, live_at (show 40 ≤ 199 by omega), Option.bind_some]
  unfold sandglasslaw11_FixedEnds.f
  rw [few_f]
  simp only [Option.bind_some, T]
  cases hf : (decide (s.length ≤ 40) && decide (h.length ≤ 40))
  · simp
  simp only [if_true, may_r' (show 3 ≤ 200 by omega), Option.bind_some]
  cases hm : mayF k l w b a v s h
  · simp
  simp only [if_true]
  by_cases h1 : n0 < 0
  · rw [if_pos h1]
  rw [if_neg h1]
  by_cases h2 : n0 > 274877906944
  · rw [if_pos h2]
  rw [if_neg h2]
  by_cases h3 : a > 274877906944
  · rw [decide_eq_true h3, T]
  rw [decide_eq_false h3]
  obtain ⟨hk, hl, hl2, hw, hw2, ha, ha2, hv, hv2, rfl, rfl⟩ := may_is hm
  have hq := quo_lt hw ha
  have he : a ≤ ends k l w b a v [] [] ∧ ends k l w b a v [] [] ≤ a + w ∧ (0 < v → ends k l w b a v [] [] = w * (a / w) + w) := by
    unfold ends; rw [hm]; simp only [if_true]; split <;> omega
  generalize hE : ends k l w b a v [] [] = E at he
  have ht : timeF (E + n0) = true := time_is.2 (by omega)
  have hmx : mx (E + n0) a = E + n0 := by unfold mx; split <;> omega
  have hmx2 : mx (E + n0) (E + n0) = E + n0 := by unfold mx; split <;> omega
  have htot : totF w a v (E + n0) = 0 := by
    unfold totF
    by_cases hv0 : v = 0
    · rw [hv0]; split <;> rfl
    · have h5 := he.2.2 (by omega)
      have : ¬ (E + n0) / w = a / w := by
        intro h6
        have h7 := quo_lt hw (show 0 ≤ E + n0 by omega)
        rw [h6] at h7; omega
      rw [if_neg this]
  have htot2 : totF w (E + n0) 0 (E + n0) = 0 := by unfold totF; split <;> rfl
  simp only [show (200 : Nat) = 199 + 1 by omega, sandglasslaw11_FixedEnds.j0, Bool.false_eq_true, if_false, ends_f, hE, Option.bind_some, wr (show -9223372036854775808 ≤ E + n0 by omega) (show E + n0 < 9223372036854775808 by omega), wr (show -9223372036854775808 ≤ a + w by omega) (show a + w < 9223372036854775808 by omega), ask_f' (show 3 ≤ 199 by omega), weigh_r, live_at (show 40 ≤ 199 by omega)]
  cases hx : weighF x
  · have e1 : ∀ a' v', askV k l w b a' v' [] [] (E + n0) x = (a', v', [], [], false, 0, 0, 0) := by
      intro a' v'; unfold askV; rw [hx]; simp
    simp only [e1, Bool.false_eq_true, if_false, same_refl' (show 100 ≤ 199 by omega) a v [] [] (by simp) (by simp), Option.bind_some]
    simp
  · rw [ask_is hm ht hx, ask_is (may_to hm (a' := E + n0) (v' := 0) (by omega) (by omega) (by omega) (by omega)) ht hx]
    have e2 : askF l w a v (E + n0) x = askF l w (E + n0) 0 (E + n0) x := by unfold askF; rw [hmx, hmx2, htot, htot2]
    rw [e2]
    have hlen : (askF l w (E + n0) 0 (E + n0) x).2.2.1 = [] ∧ (askF l w (E + n0) 0 (E + n0) x).2.2.2.1 = [] := by unfold askF; dsimp only; split <;> simp
    rw [hlen.1, hlen.2]
    simp only [if_true, same_refl' (show 100 ≤ 199 by omega) _ _ [] [] (by simp) (by simp), Option.bind_some]
    rw [if_pos (by omega), if_pos (by omega)]
    simp
end Go.Proofs.Ytlnadabohaobnaa.fixedEnds
