/- PolicyApart: proved of the printed functions. -/
import Derived.Test.YtjhipnhnbnnodaaStPolicyApart
import Derived.Test.YtjhipnhnbnnodaaPolicyLa
namespace Go.Proofs.Ytjhipnhnbnnodaa.policyApart
open Go.RowKit Go.Proofs.YtjhipnhnbnnodaaW.PrintWords Go.Proofs.YtjhipnhnbnnodaaW.PrintLast Go.Proofs.YtjhipnhnbnnodaaW.PrintMore Go.Proofs.Ytjhipnhnbnnodaa.Q Go.Proofs.Ytjhipnhnbnnodaa.La
set_option linter.unusedSimpArgs false
set_option linter.unusedVariables false
theorem toList_eq {a b : ByteArray} (h : a.toList = b.toList) : a = b := by
  rw [ByteArray.toList_eq, ByteArray.toList_eq] at h
  apply ByteArray.ext
  exact Array.ext' h
theorem pure : Pure := by
  intro k l w b k' l' w' b' _ _ _ _ _ _ _ _
  refine ⟨60, ?_⟩
  unfold sandglasslaw09_PolicyApart.f
  simp only [enc_f (show 20 ≤ 60 by omega), Option.bind_some]
  have T : ∀ x y : ByteArray, (x = ⟨#[]⟩ ∨ y = ⟨#[]⟩) → sandglasslaw09_PolicyApart.j0 60 x y true k l w b k' l' w' b' = some true := by
    intro x y h
    simp only [show (60 : Nat) = 59 + 1 from rfl, sandglasslaw09_PolicyApart.j0, if_true, live_at (show 40 ≤ 59 by omega), Option.bind_some]
    by_cases hx : x.toList = ([] : List UInt8)
    · rw [if_pos hx]
    · rw [if_neg hx]
      rcases h with h | h
      · rw [h] at hx; exact absurd empty_list hx
      · rw [h, if_pos empty_list]
  unfold encV
  cases hp : polOk k l w b
  · simp only [Bool.false_eq_true, if_false]
    rw [if_neg (by omega)]
    exact T _ _ (Or.inl rfl)
  · cases hq : polOk k' l' w' b'
    · simp only [Bool.false_eq_true, if_false, if_true]
      exact T _ _ (Or.inr rfl)
    · simp only [if_true, show (60 : Nat) = 59 + 1 from rfl, bne_self_eq_false, sandglasslaw09_PolicyApart.j0, Bool.false_eq_true, if_false, live_at (show 40 ≤ 59 by omega), Option.bind_some, encB_size]
      have key : ((encB k l w b).toList == (encB k' l' w' b').toList) = (k == k' && (l == l' && (w == w' && b == b'))) := by
        rw [Bool.eq_iff_iff]
        simp only [beq_iff_eq, Bool.and_eq_true]
        constructor
        · intro h
          have e := toList_eq h
          have d := dec_enc hp
          rw [e, dec_enc hq] at d
          simp only [Prod.mk.injEq] at d
          exact ⟨d.1.symm, d.2.1.symm, d.2.2.1.symm, d.2.2.2.1.symm⟩
        · rintro ⟨rfl, rfl, rfl, rfl⟩; rfl
      rw [key]
      simp
end Go.Proofs.Ytjhipnhnbnnodaa.policyApart
