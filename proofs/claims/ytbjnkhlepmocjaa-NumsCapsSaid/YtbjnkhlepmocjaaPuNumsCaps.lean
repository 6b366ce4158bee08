/- NumsCaps: proved of the printed functions. -/
import Derived.Test.YtbjnkhlepmocjaaStNumsCaps
import Derived.Test.YtbjnkhlepmocjaaNumsLa
namespace Go.Proofs.Ytbjnkhlepmocjaa.numsCaps
open Go.RowKit Go.Proofs.YtbjnkhlepmocjaaW.PrintWords Go.Proofs.YtbjnkhlepmocjaaW.PrintLast Go.Proofs.YtbjnkhlepmocjaaW.PrintMore Go.Proofs.Ytbjnkhlepmocjaa.Q Go.Proofs.Ytbjnkhlepmocjaa.La
set_option linter.unusedSimpArgs false
set_option linter.unusedVariables false
theorem mn_bd (a b : Int) : mn a b ≤ a ∧ mn a b ≤ b ∧ (mn a b = a ∨ mn a b = b) := by unfold mn; split <;> omega
theorem pure : Pure := by
  intro a b m0 m1 c wa wb w0 w1 wc
  have ha := u64_is wa
  have hb := u64_is wb
  have h0 := u64_is w0
  have h1 := u64_is w1
  have hc := u64_is wc
  refine ⟨60, ?_⟩
  have hm := mn_bd m0 m1
  have e1 : addV a b (mn m0 m1) = mn (addV a b m0) (addV a b m1) := by unfold addV mn; split <;> split <;> split <;> (try split) <;> omega
  have e2 : mulV a b (mn m0 m1) = mn (mulV a b m0) (mulV a b m1) := by
    unfold mulV mn; generalize a * b = x; split <;> split <;> split <;> (try split) <;> omega
  unfold sandglasslaw02_NumsCaps.f
  rw [show (60 : Nat) = 59 + 1 by omega]
  simp only [add_f ha.1 ha.2 hb.1 hb.2 (show 0 ≤ mn m0 m1 by omega) (show mn m0 m1 ≤ 18446744073709551615 by omega), add_f ha.1 ha.2 hb.1 hb.2 h0.1 h0.2, add_f ha.1 ha.2 hb.1 hb.2 h1.1 h1.2, mul_f 59 ha.1 ha.2 hb.1 hb.2 (show 0 ≤ mn m0 m1 by omega) (show mn m0 m1 ≤ 18446744073709551615 by omega), mul_f 59 ha.1 ha.2 hb.1 hb.2 h0.1 h0.2, mul_f 59 ha.1 ha.2 hb.1 hb.2 h1.1 h1.2, Option.bind_some, ← e1, ← e2, if_true, bne_self_eq_false]
  generalize hz : mn m0 m1 = z at *
  have b1 := add_bd (m := z) ha.1 hb.1 (by omega)
  have b2 := add_bd (m := z) hb.1 hc.1 (by omega)
  have b3 := add_bd (m := 18446744073709551615) hb.1 hc.1 (by omega)
  have b4 := sub_bd ha.1 hb.1
  simp only [sandglasslaw02_NumsCaps.j0, Bool.false_eq_true, if_false, add_f ha.1 ha.2 hb.1 hb.2 (show 0 ≤ z by omega) (show z ≤ 18446744073709551615 by omega), add_f hb.1 hb.2 hc.1 hc.2 (show 0 ≤ z by omega) (show z ≤ 18446744073709551615 by omega), add_f b1.1 (show addV a b z ≤ 18446744073709551615 by omega) hc.1 hc.2 (show 0 ≤ z by omega) (show z ≤ 18446744073709551615 by omega), add_f ha.1 ha.2 b2.1 (show addV b c z ≤ 18446744073709551615 by omega) (show 0 ≤ z by omega) (show z ≤ 18446744073709551615 by omega), add_f hb.1 hb.2 hc.1 hc.2 (show (0 : Int) ≤ 18446744073709551615 by omega) (Int.le_refl _), sub_f ha.1 ha.2 hb.1, sub_f b4.1 (show subV a b ≤ 18446744073709551615 by omega) hc.1, sub_f ha.1 ha.2 b3.1, Option.bind_some, live_at (show 40 ≤ 59 by omega)]
  have e3 : addV (addV a b z) c z = addV a (addV b c z) z := by unfold addV; split <;> split <;> (try split) <;> omega
  have e4 : subV (subV a b) c = subV a (addV b c 18446744073709551615) := by unfold subV addV; split <;> split <;> (try split) <;> (try split) <;> omega
  rw [if_pos e3, if_pos e4]
end Go.Proofs.Ytbjnkhlepmocjaa.numsCaps
