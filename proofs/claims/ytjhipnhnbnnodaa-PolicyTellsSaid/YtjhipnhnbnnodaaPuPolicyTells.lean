/- PolicyTells: proved of the printed functions. -/
import Derived.Test.YtjhipnhnbnnodaaStPolicyTells
import Derived.Test.YtjhipnhnbnnodaaPolicyLa
import Derived.Test.YtjhipnhnbnnodaaPolicyRa
namespace Go.Proofs.Ytjhipnhnbnnodaa.policyTells
open Go.RowKit Go.Proofs.YtjhipnhnbnnodaaW.PrintWords Go.Proofs.YtjhipnhnbnnodaaW.PrintLast Go.Proofs.YtjhipnhnbnnodaaW.PrintMore Go.Proofs.Ytjhipnhnbnnodaa.Q Go.Proofs.Ytjhipnhnbnnodaa.La
set_option linter.unusedSimpArgs false
set_option linter.unusedVariables false
theorem enc_r {n : Nat} (hn : 20 ≤ n) (k l w b : Int) : sandglassref09_Encode.f n k l w b = some (encV k l w b) := by
  obtain ⟨n, rfl⟩ : ∃ m, n = m + 3 := ⟨n - 3, by omega⟩
  unfold sandglassref09_Encode.f encV
  rw [refCheck n]
  cases hp : polOk k l w b
  · simp
  · obtain ⟨k0, k1, l0, l1, w0, w1, b0, b1, _⟩ := polOk_is hp
    have h1 : ∀ x, (wideV x 1).size = 1 := fun x => wide_size x 1 (by omega)
    have h4 : ∀ x, (wideV x 4).size = 4 := fun x => wide_size x 4 (by omega)
    simp only [if_true, Option.bind_some]
    rw [uw (x := k) (by omega) (by omega), uw (x := l) (by omega) (by omega), uw (x := w) (by omega) (by omega), uw (x := b) (by omega) (by omega)]
    simp only [wide_r hn k 1 (by omega) (by omega), wide_r hn l 4 (by omega) (by omega), wide_r hn w 4 (by omega) (by omega), wide_r hn b 1 (by omega) (by omega), Option.bind_some, ByteArray.size_append, h1, h4]
    simp [encB]
theorem span_r {n : Nat} (hn : 20 ≤ n) (k l w b : Int) : sandglassref09_Span.f n k l w b = some (if polOk k l w b = true then w else 0) := by
  obtain ⟨n, rfl⟩ : ∃ m, n = m + 3 := ⟨n - 3, by omega⟩
  unfold sandglassref09_Span.f
  rw [refCheck n]
  cases polOk k l w b <;> simp
theorem slot_r {n : Nat} (hn : 20 ≤ n) (k l w b : Int) : sandglassref09_Slot.f n k l w b = some (if polOk k l w b = true then slotV k w b else 0) := by
  obtain ⟨n, rfl⟩ : ∃ m, n = m + 3 := ⟨n - 3, by omega⟩
  unfold sandglassref09_Slot.f slotV
  rw [refCheck n]
  cases hp : polOk k l w b
  · simp
  · obtain ⟨k0, k1, l0, l1, w0, w1, b0, b1, h3⟩ := polOk_is hp
    simp only [if_true, Option.bind_some]
    by_cases hk : k = 3
    · have := h3 hk
      have q := IntWalk.tdiv_le w b (by omega) this.1
      rw [if_pos hk, if_pos hk, if_neg (by omega), wr (by rw [Int.tdiv_eq_ediv_of_nonneg (by omega)]; omega) (by rw [Int.tdiv_eq_ediv_of_nonneg (by omega)]; omega)]
    · rw [if_neg hk, if_neg hk]
theorem weigh_f (t : Int) : policy_Weighs.f t = some (decide (1 ≤ t) && decide (t ≤ 1048576)) := by
  unfold policy_Weighs.f policy_within_int.f; by_cases h : t ≥ 1 <;> simp [h, show (1 ≤ t) = (t ≥ 1) from rfl]
theorem weigh_r (t : Int) : sandglassref09_Weighs.f t = some (decide (1 ≤ t) && decide (t ≤ 1048576)) := by
  unfold sandglassref09_Weighs.f; by_cases h : t ≥ 1 <;> simp [h, show (1 ≤ t) = (t ≥ 1) from rfl]
theorem pure : Pure := by
  intro k l w b x _ _ _ _ _
  refine ⟨60, ?_⟩
  unfold sandglasslaw09_PolicyTells.f
  simp only [enc_f (show 20 ≤ 60 by omega), enc_r (show 20 ≤ 60 by omega), check_f, show (60 : Nat) = 57 + 3 from rfl, refCheck 57, span_f, slot_f, weigh_f, weigh_r, Option.bind_some]
  simp only [span_r (show 20 ≤ 57 + 3 by omega), slot_r (show 20 ≤ 57 + 3 by omega), live_at (show 40 ≤ 57 + 3 by omega), Option.bind_some, chk, if_true, BEq.rfl]
end Go.Proofs.Ytjhipnhnbnnodaa.policyTells
