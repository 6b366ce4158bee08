/- PolicyBack: proved of the printed functions. -/
import Derived.Test.YtjhipnhnbnnodaaStPolicyBack
import Derived.Test.YtjhipnhnbnnodaaPolicyLa
namespace Go.Proofs.Ytjhipnhnbnnodaa.policyBack
open Go.RowKit Go.Proofs.YtjhipnhnbnnodaaW.PrintWords Go.Proofs.YtjhipnhnbnnodaaW.PrintLast Go.Proofs.YtjhipnhnbnnodaaW.PrintMore Go.Proofs.Ytjhipnhnbnnodaa.Q Go.Proofs.Ytjhipnhnbnnodaa.La
set_option linter.unusedSimpArgs false
set_option linter.unusedVariables false
/-- What is read is what was written. -/
theorem enc_fld (s : ByteArray) (h : s.size = 10) : encB (fld s 0 1) (fld s 1 4) (fld s 5 4) (fld s 9 1) = s := by
  have hl : s.data.toList.length = 10 := by rw [← h]; simp
  have d : ∀ (a c : Nat), a + c ≤ 10 → c ≤ 8 → (wideV (fld s a c) (c : Int)).data.toList = (s.data.toList.drop a).take c := by
    intro a c h1 h2
    rw [wideV_data _ c h2, strOfNums_data]
    exact wide_numL c _ (by rw [List.length_take, List.length_drop]; omega)
  have d0 := d 0 1 (by omega) (by omega)
  have d1 := d 1 4 (by omega) (by omega)
  have d5 := d 5 4 (by omega) (by omega)
  have d9 := d 9 1 (by omega) (by omega)
  have e1 : ((1 : Nat) : Int) = 1 := rfl
  have e4 : ((4 : Nat) : Int) = 4 := rfl
  rw [e1] at d0 d9
  rw [e4] at d1 d5
  apply ByteArray.ext
  apply Array.ext'
  have e : (encB (fld s 0 1) (fld s 1 4) (fld s 5 4) (fld s 9 1)).data.toList = (wideV (fld s 0 1) 1).data.toList ++ ((wideV (fld s 1 4) 4).data.toList ++ ((wideV (fld s 5 4) 4).data.toList ++ (wideV (fld s 9 1) 1).data.toList)) := by
    unfold encB; simp
  rw [e, d0, d1, d5, d9]
  generalize s.data.toList = l at hl
  match l, hl with
  | [a, b, c, d, e, f, g, i, j, k], _ => rfl
theorem pure : Pure := by
  intro k l w b s _ _ _ _ hs
  refine ⟨60, ?_⟩
  unfold sandglasslaw09_PolicyBack.f
  by_cases h : (s.size : Int) > 100
  · rw [if_pos h]; simp only [live_at (show 40 ≤ 60 by omega), Option.bind_some]
  rw [if_neg h]
  have J : sandglasslaw09_PolicyBack.j0 60 s false = some true := by
    simp only [show (60 : Nat) = 59 + 1 from rfl, sandglasslaw09_PolicyBack.j0, Bool.false_eq_true, if_false, dec_f s (by omega), enc_f (show 20 ≤ 59 by omega), live_at (show 40 ≤ 59 by omega), Option.bind_some]
    unfold decV
    by_cases h1 : s.size < 10
    · simp [h1]
    · rw [if_neg h1]
      by_cases h2 : s.size = 10 ∧ polOk (fld s 0 1) (fld s 1 4) (fld s 5 4) (fld s 9 1) = true
      · rw [if_pos h2]
        unfold encV
        rw [if_pos h2.2]
        simp only [if_true, enc_fld s h2.1]
      · rw [if_neg h2]; simp
  simp only [enc_f (show 20 ≤ 60 by omega), check_f, Option.bind_some]
  unfold encV chk
  cases hp : polOk k l w b
  · have e : decV (⟨#[]⟩ : ByteArray) = (0, 0, 0, 0, 2) := by unfold decV; rw [if_pos (by decide)]
    have e2 : ((⟨#[]⟩ : ByteArray).toList != ([] : List UInt8)) = false := by rw [empty_list]; rfl
    simp only [Bool.false_eq_true, if_false, dec_f _ (show (⟨#[]⟩ : ByteArray).size ≤ 1000000 by decide), e, e2, Option.bind_some]
    simpa using J
  · simp only [if_true, dec_f _ (show (encB k l w b).size ≤ 1000000 by rw [encB_size]; omega), dec_enc hp, Option.bind_some, encB_size]
    simpa using J
end Go.Proofs.Ytjhipnhnbnnodaa.policyBack
