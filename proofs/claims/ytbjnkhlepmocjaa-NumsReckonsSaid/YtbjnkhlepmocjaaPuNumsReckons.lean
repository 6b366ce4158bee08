/- NumsReckons: proved of the printed functions. -/
import Derived.Test.YtbjnkhlepmocjaaStNumsReckons
import Derived.Test.YtbjnkhlepmocjaaNumsLa
namespace Go.Proofs.Ytbjnkhlepmocjaa.numsReckons
open Go.RowKit Go.Proofs.YtbjnkhlepmocjaaW.PrintWords Go.Proofs.YtbjnkhlepmocjaaW.PrintLast Go.Proofs.YtbjnkhlepmocjaaW.PrintMore Go.Proofs.Ytbjnkhlepmocjaa.Q Go.Proofs.Ytbjnkhlepmocjaa.La
set_option linter.unusedSimpArgs false
set_option linter.unusedVariables false
theorem add_r (k : Nat) {a b m : Int} (a0 : 0 ≤ a) (a1 : a ≤ 18446744073709551615) (b0 : 0 ≤ b) (b1 : b ≤ 18446744073709551615) (m0 : 0 ≤ m) (m1 : m ≤ 18446744073709551615) : sandglassref02_Add.f (k + 1) a b m = some (addV a b m) := by
  unfold sandglassref02_Add.f addV
  split
  · simp only [sandglassref02_Add.j0, if_true]; rw [if_neg (by omega)]
  · rw [uw (x := m - a) (by omega) (by omega)]
    simp only [sandglassref02_Add.j0]
    by_cases h : b > m - a
    · rw [if_pos (decide_eq_true h), if_neg (by omega)]
    · rw [if_neg (by simpa using h), if_pos (by omega), uw (by omega) (by omega)]
theorem mul_r (k : Nat) {a b m : Int} (a0 : 0 ≤ a) (a1 : a ≤ 18446744073709551615) (b0 : 0 ≤ b) (b1 : b ≤ 18446744073709551615) (m0 : 0 ≤ m) (m1 : m ≤ 18446744073709551615) : sandglassref02_Mul.f (k + 1) a b m = some (mulV a b m) := by
  unfold sandglassref02_Mul.f mulV
  by_cases ha : a = 0
  · rw [if_pos ha]; simp only [sandglassref02_Mul.j0, if_true]; rw [ha, Int.zero_mul, if_pos m0]
  · rw [if_neg ha]
    by_cases hb : b = 0
    · simp only [sandglassref02_Mul.j0, hb, beq_self_eq_true, if_true, Int.mul_zero]; rw [if_pos m0]
    · have hb' : (b == 0) = false := by simpa using hb
      simp only [sandglassref02_Mul.j0, hb', Bool.false_eq_true, if_false]
      rw [if_neg hb, Int.tdiv_eq_ediv_of_nonneg m0]
      have q := quo_le m0 b0
      rw [uw q.1 (by omega)]
      have hm : 0 ≤ a * b := Int.mul_nonneg a0 b0
      by_cases h : a > m / b
      · rw [if_pos h]
        have : ¬ a * b ≤ m := by
          intro h2
          have := (Int.le_ediv_iff_mul_le (show 0 < b by omega)).2 h2
          omega
        rw [if_neg this]
      · rw [if_neg h]
        have := (Int.le_ediv_iff_mul_le (show 0 < b by omega)).1 (show a ≤ m / b by omega)
        rw [if_pos this, uw hm (by omega)]
theorem sub_r {a b : Int} (a0 : 0 ≤ a) (a1 : a ≤ 18446744073709551615) (b0 : 0 ≤ b) : sandglassref02_Sub.f a b = some (subV a b) := by
  unfold sandglassref02_Sub.f subV
  split
  · rfl
  · rw [uw (by omega) (by omega)]
theorem up_r {a b : Int} (a0 : 0 ≤ a) (a1 : a ≤ 18446744073709551615) (b0 : 0 ≤ b) : sandglassref02_Up.f a b = some (upV a b) := by
  have u := up_bd a0 b0
  have h := quo_le a0 b0
  unfold sandglassref02_Up.f
  unfold upV at *
  split
  · rfl
  · rename_i hb
    rw [if_neg hb] at u
    rw [Int.tdiv_eq_ediv_of_nonneg a0, Int.tmod_eq_emod_of_nonneg a0, uw h.1 (by omega)]
    split
    · rfl
    · rename_i hm
      rw [if_neg hm] at u
      rw [uw u.1 (by omega)]
theorem pure : Pure := by
  intro a b m wa wb wm
  have ha := u64_is wa
  have hb := u64_is wb
  have hm := u64_is wm
  refine ⟨50, ?_⟩
  unfold sandglasslaw02_NumsReckons.f
  simp only [add_f ha.1 ha.2 hb.1 hb.2 hm.1 hm.2, add_r 49 ha.1 ha.2 hb.1 hb.2 hm.1 hm.2, mul_f 49 ha.1 ha.2 hb.1 hb.2 hm.1 hm.2, mul_r 49 ha.1 ha.2 hb.1 hb.2 hm.1 hm.2, sub_f ha.1 ha.2 hb.1, sub_r ha.1 ha.2 hb.1, up_f ha.1 ha.2 hb.1, up_r ha.1 ha.2 hb.1, Option.bind_some, if_true, live_at (show 40 ≤ 50 by omega)]
end Go.Proofs.Ytbjnkhlepmocjaa.numsReckons
