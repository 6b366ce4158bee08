/- ExactEnds: proved of the printed functions. -/
import Derived.Test.YtempbjcmhillgaaStExactEnds
import Derived.Test.YtempbjcmhillgaaExactTa
namespace Go.Proofs.Ytempbjcmhillgaa.exactEnds
open Go.RowKit Go.Proofs.YtempbjcmhillgaaW.PrintWords Go.Proofs.YtempbjcmhillgaaW.PrintLast Go.Proofs.YtempbjcmhillgaaW.PrintMore Go.Proofs.Ytempbjcmhillgaa.Q Go.Proofs.Ytempbjcmhillgaa.La
set_option linter.unusedSimpArgs false
set_option linter.unusedVariables false
theorem pure : Pure := by
  intro k l w b a v s h n0 x _ _ _ _ _ _ _ _ _ _
  refine ⟨3000, ?_⟩
  have T : ∀ x0 x1 x2 x3 y0 y1 y2 y3 z0 z1, sandglasslaw13_ExactEnds.j0 3000 true x0 x1 x2 x3 y0 y1 y2 y3 z0 z1 = some true := by
    intros
    simp only [show (3000 : Nat) = 2999 + 1 from rfl, sandglasslaw13_ExactEnds.j0, if_true, live_at (show 40 ≤ 2999 by omega), Option.bind_some]
  unfold sandglasslaw13_ExactEnds.f
  rw [few_f]
  simp only [Option.bind_some, T]
  cases hf : (decide (s.length ≤ 40) && decide (h.length ≤ 40))
  · simp
  simp only [Bool.and_eq_true, decide_eq_true_eq] at hf
  simp only [if_true, may_r (show 2100 ≤ 3000 by omega) k l w b a v s h (by omega), Option.bind_some]
  cases hm : mayF k l w b a v s h
  · simp
  simp only [if_true]
  by_cases h1 : n0 < 0
  · rw [if_pos h1]
  rw [if_neg h1]
  by_cases h2 : n0 > 274877906944
  · rw [if_pos h2]
  rw [if_neg h2]
  by_cases h3 : a > 274877906944
  · rw [decide_eq_true h3, T]
  rw [decide_eq_false h3]
  obtain ⟨hk, l0, l1, w0, w1, a0, a1, hv, hs, ho, hc⟩ := may_is hm
  have hmem := okL_mem ho
  have hmx := mx_le (-1) (a - w)
  obtain ⟨hE1, hE2, hE3⟩ : a ≤ ends k l w b a v s h ∧ ends k l w b a v s h ≤ a + w ∧ ∀ x ∈ h, x.f0 + w ≤ ends k l w b a v s h := by
    unfold ends
    rw [hm, if_pos rfl]
    by_cases hn : h = []
    · subst hn
      simp only [waitU]
      exact ⟨Int.le_refl _, by omega, fun x hx => by cases hx⟩
    · obtain ⟨y, hy, he, hx⟩ := waitU_end (w := w) (u := a) ho hn
      have := hmem y hy
      rw [he]
      exact ⟨by omega, by omega, fun z hz => by have := hx z hz; omega⟩
  simp only [show (3000 : Nat) = 2999 + 1 from rfl, sandglasslaw13_ExactEnds.j0, Bool.false_eq_true, if_false, ends_f (show 2200 ≤ 2999 by omega) k l w b a v s h (by omega), Option.bind_some, weigh_r, live_at (show 40 ≤ 2999 by omega)]
  generalize hE : ends k l w b a v s h = E at *
  rw [wr (x := E + n0) (by omega) (by omega), wr (x := a + w) (by omega) (by omega)]
  have ht : timeF (E + n0) = true := time_is.2 (by omega)
  simp only [ask_f (show 2200 ≤ 2999 by omega) k l w b a v s h (E + n0) x (by omega), ask_f (show 2200 ≤ 2999 by omega) k l w b (E + n0) 0 [] [] (E + n0) x (by simp), Option.bind_some]
  cases hx : weighF x
  · have e1 : ∀ a' v' s' h', askV k l w b a' v' s' h' (E + n0) x = (a', v', s', h', false, 0, 0, 0) := by
      intro a' v' s' h'; unfold askV; rw [hx]; simp
    simp only [e1, Bool.false_eq_true, if_false, same_refl' (show 200 ≤ 2999 by omega) a v s h (by omega) (by omega), Option.bind_some]
    simp
  · have hm2 : mayF k l w b (E + n0) 0 [] [] = true := may_to hm (by omega) (by omega) rfl (by simp [cnt]; omega)
    rw [ask_is hm ht hx, ask_is hm2 ht hx]
    have m1 : mx (E + n0) a = E + n0 := by unfold mx; split <;> omega
    have e2 : askF l w a h (E + n0) x = askF l w (E + n0) [] (E + n0) x := by
      rw [askF_R, askF_R, m1, mx_self, since_nil, since_none (fun z hz => by have := hE3 z hz; omega)]
    rw [e2]
    have hz : (askF l w (E + n0) [] (E + n0) x).2.2.1 = [] ∧ (askF l w (E + n0) [] (E + n0) x).2.2.2.1.length ≤ 100 := by
      rw [askF_R, since_nil]
      by_cases hc : cnt ([] : List S50) + x ≤ l
      · rw [askR_pos hc]; exact ⟨rfl, by dsimp only; rw [addL_nil]; simp⟩
      · rw [askR_neg hc]; exact ⟨rfl, by simp⟩
    rw [hz.1]
    simp only [if_true, same_refl' (show 200 ≤ 2999 by omega) _ _ [] _ (by simp) hz.2, Option.bind_some]
    rw [if_pos (by omega), if_pos hE2]
    simp
end Go.Proofs.Ytempbjcmhillgaa.exactEnds
