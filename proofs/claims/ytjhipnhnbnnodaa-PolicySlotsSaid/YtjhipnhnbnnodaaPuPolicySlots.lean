/- PolicySlots: proved of the printed functions. -/
import Derived.Test.YtjhipnhnbnnodaaStPolicySlots
import Derived.Test.YtjhipnhnbnnodaaPolicyLa
namespace Go.Proofs.Ytjhipnhnbnnodaa.policySlots
open Go.RowKit Go.Proofs.YtjhipnhnbnnodaaW.PrintWords Go.Proofs.YtjhipnhnbnnodaaW.PrintLast Go.Proofs.YtjhipnhnbnnodaaW.PrintMore Go.Proofs.Ytjhipnhnbnnodaa.Q Go.Proofs.Ytjhipnhnbnnodaa.La
set_option linter.unusedSimpArgs false
set_option linter.unusedVariables false
theorem pure : Pure := by
  intro k l w b _ _ _ _
  refine ⟨60, ?_⟩
  unfold sandglasslaw09_PolicySlots.f
  simp only [check_f, span_f, slot_f, live_at (show 40 ≤ 60 by omega), Option.bind_some]
  unfold chk
  cases hp : polOk k l w b
  · simp
  · obtain ⟨k0, k1, l0, l1, w0, w1, b0, b1, h3⟩ := polOk_is hp
    simp only [if_true]
    have J : ∀ n : Int, slotV k w b ≥ 1 → n * slotV k w b = w → sandglasslaw09_PolicySlots.j0 60 n k l w b = some true := by
      intro n h1 h2
      simp only [show (60 : Nat) = 59 + 1 from rfl, sandglasslaw09_PolicySlots.j0, span_f, slot_f, hp, if_true, live_at (show 40 ≤ 59 by omega), Option.bind_some, h2]
      rw [if_pos h1, wr (by omega) (by omega), if_pos rfl, if_pos l0, if_pos l1]
    by_cases hk : k = 3
    · rw [if_pos hk]
      obtain ⟨c0, c1⟩ := h3 hk
      rw [Int.tmod_eq_emod_of_nonneg (by omega)] at c1
      have e := Int.emod_add_mul_ediv w b
      rw [c1, Int.zero_add] at e
      apply J
      · unfold slotV
        rw [if_pos hk, Int.tdiv_eq_ediv_of_nonneg (by omega)]
        rcases Int.lt_or_le (w / b) 1 with h | h
        · have h0 : 0 ≤ w / b := Int.ediv_nonneg (by omega) (by omega)
          have : w / b = 0 := by omega
          rw [this] at e; simp at e; omega
        · exact h
      · unfold slotV
        rw [if_pos hk, Int.tdiv_eq_ediv_of_nonneg (by omega), e]
    · rw [if_neg hk]
      apply J
      · unfold slotV; rw [if_neg hk]; exact w0
      · unfold slotV; rw [if_neg hk]; omega
end Go.Proofs.Ytjhipnhnbnnodaa.policySlots
