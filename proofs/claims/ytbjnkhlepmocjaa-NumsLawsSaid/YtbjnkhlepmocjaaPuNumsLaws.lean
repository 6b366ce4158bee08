/- NumsLaws: proved of the printed functions. -/
import Derived.Test.YtbjnkhlepmocjaaStNumsLaws
import Derived.Test.YtbjnkhlepmocjaaNumsLa
namespace Go.Proofs.Ytbjnkhlepmocjaa.numsLaws
open Go.RowKit Go.Proofs.YtbjnkhlepmocjaaW.PrintWords Go.Proofs.YtbjnkhlepmocjaaW.PrintLast Go.Proofs.YtbjnkhlepmocjaaW.PrintMore Go.Proofs.Ytbjnkhlepmocjaa.Q Go.Proofs.Ytbjnkhlepmocjaa.La
set_option linter.unusedSimpArgs false
set_option linter.unusedVariables false
theorem up_is {a b : Int} (a0 : 0 ≤ a) (b0 : 1 ≤ b) : a ≤ upV a b * b ∧ (upV a b = 0 ∨ (upV a b - 1) * b < a) := by
  have e := Int.emod_add_mul_ediv a b
  have m := Int.emod_lt_of_pos a (show 0 < b by omega)
  have m0 := Int.emod_nonneg a (show b ≠ 0 by omega)
  rw [Int.mul_comm] at e
  unfold upV
  rw [if_neg (by omega)]
  split
  · rename_i hz
    refine ⟨by omega, ?_⟩
    by_cases h : a / b = 0
    · exact Or.inl h
    · right; rw [Int.sub_mul]; omega
  · rename_i hz
    have : a / b + 1 - 1 = a / b := by omega
    rw [this, Int.add_mul]
    exact ⟨by omega, Or.inr (by omega)⟩
theorem pure : Pure := by
  intro a b m wa wb wm
  have ha := u64_is wa
  have hb := u64_is wb
  have hm := u64_is wm
  refine ⟨60, ?_⟩
  have hs := add_bd ha.1 hb.1 hm.1
  have hp := mul_bd ha.1 hb.1 hm.1
  have ca : addV b a m = addV a b m := by unfold addV; rw [Int.add_comm]
  have cm : mulV b a m = mulV a b m := by unfold mulV; rw [Int.mul_comm]
  unfold sandglasslaw02_NumsLaws.f
  rw [show (60 : Nat) = 59 + 1 by omega]
  simp only [add_f ha.1 ha.2 hb.1 hb.2 hm.1 hm.2, add_f hb.1 hb.2 ha.1 ha.2 hm.1 hm.2, mul_f 59 ha.1 ha.2 hb.1 hb.2 hm.1 hm.2, mul_f 59 hb.1 hb.2 ha.1 ha.2 hm.1 hm.2, Option.bind_some, ca, cm, if_true]
  rw [if_neg (by omega), decide_eq_false (by omega)]
  have J2 : sandglasslaw02_NumsLaws.j2 58 a b (mulV a b m) false = some true := by
    simp only [show (58 : Nat) = 57 + 1 by omega, sandglasslaw02_NumsLaws.j2, Bool.false_eq_true, if_false, up_f ha.1 ha.2 hb.1, Option.bind_some, live_at (show 40 ≤ 57 by omega)]
    by_cases h : b = 0
    · rw [if_pos h, h]
      have e1 : mulV a 0 m = 0 := by unfold mulV; rw [Int.mul_zero, if_pos hm.1]
      have e2 : upV a 0 = 0 := rfl
      rw [e1, e2]; simp
    · rw [if_neg h]
      have u := up_bd ha.1 hb.1
      have ui := up_is ha.1 (show 1 ≤ b by omega)
      rw [show (57 : Nat) = 56 + 1 by omega]
      rw [mul_f 56 u.1 (by omega) hb.1 hb.2 (by omega) (by omega)]
      have J3 : sandglasslaw02_NumsLaws.j3 57 true true = some true := by
        simp only [show (57 : Nat) = 56 + 1 by omega, sandglasslaw02_NumsLaws.j3, if_true, live_at (show 40 ≤ 56 by omega), Option.bind_some]
      have e1 : decide (mulV (upV a b) b 18446744073709551615 ≥ a) = true := decide_eq_true (by unfold mulV; split <;> omega)
      simp only [Option.bind_some, e1]
      by_cases h2 : upV a b = 0
      · rw [if_pos h2]; exact J3
      · rw [if_neg h2, uw (by omega) (by omega), mul_f 56 (by omega) (by omega) hb.1 hb.2 (by omega) (by omega)]
        have h3 : (upV a b - 1) * b < a := by rcases ui.2 with h3 | h3; exact absurd h3 h2; exact h3
        have e2 : decide (mulV (upV a b - 1) b 18446744073709551615 < a) = true := decide_eq_true (by unfold mulV; split <;> omega)
        simp only [Option.bind_some, e2]
        exact J3
  have J1 : sandglasslaw02_NumsLaws.j1 59 a b m (mulV a b m) false = some true := by
    rw [show (59 : Nat) = 58 + 1 by omega]
    simp only [sandglasslaw02_NumsLaws.j1, Bool.false_eq_true, if_false]
    rw [show (58 : Nat) = 57 + 1 by omega, mul_f 57 ha.1 ha.2 (by omega) (by omega) hm.1 hm.2, add_f ha.1 ha.2 (by omega) (by omega) hm.1 hm.2]
    have e1 : mulV a 1 m = mn a m := by unfold mulV mn; rw [Int.mul_one]; split <;> split <;> omega
    have e2 : addV a 0 m = mn a m := by unfold addV mn; rw [Int.add_zero]; split <;> split <;> omega
    simp only [Option.bind_some, e1, e2, if_true, bne_self_eq_false]
    exact J2
  simp only [sandglasslaw02_NumsLaws.j0, Bool.false_eq_true, if_false, sub_f hs.1 (show addV a b m ≤ 18446744073709551615 by omega) ha.1, sub_f hs.1 (show addV a b m ≤ 18446744073709551615 by omega) hb.1, Option.bind_some]
  by_cases h1 : a ≤ m
  · rw [if_pos h1]
    by_cases h2 : b ≤ m
    · rw [if_pos h2]
      by_cases h3 : addV a b m < m
      · rw [if_pos h3]
        have e : addV a b m = a + b := by
          unfold addV at h3 ⊢
          split
          · rfl
          · rename_i h4; rw [if_neg h4] at h3; omega
        have e1 : subV (a + b) a = b := by unfold subV; rw [if_neg (by omega)]; omega
        have e2 : subV (a + b) b = a := by unfold subV; rw [if_neg (by omega)]; omega
        rw [e, e1, e2, if_pos rfl, if_pos rfl, decide_eq_false (by omega)]
        exact J1
      · rw [if_neg h3]; exact J1
    · rw [if_neg h2]; exact J1
  · rw [if_neg h1]; exact J1
end Go.Proofs.Ytbjnkhlepmocjaa.numsLaws
