-- Laid by wip/tools/hprint.py, a program of this repo, over the kit's print; not a text of print.sh.
import Derived.Test.YtbjnkhlepmocjaaQ0
namespace Go.Proofs.Ytbjnkhlepmocjaa.Q
open Go.RowKit Go.Proofs.Ytbjnkhlepmocjaa.Zip Go.Proofs.YtbjnkhlepmocjaaW.PrintWords Go.Proofs.YtbjnkhlepmocjaaW.PrintLast Go.Proofs.YtbjnkhlepmocjaaW.PrintMore
attribute [local go_sem] max2_int min2_int max_two min_two max_three min_three max_four min_four   -- for this text's walks alone
set_option linter.unusedVariables false
set_option linter.unusedSimpArgs false

/-! ### sandglassref02_Up: function 16 -/
def sandglassref02_Up.f (a0 : Int) (a1 : Int) : Option (Int) := if a1 = 0 then (some 0) else (if (Int.tmod a0 a1) = 0 then (some (IntKind.u64.wrap (Int.tdiv a0 a1))) else (some (IntKind.u64.wrap ((IntKind.u64.wrap (Int.tdiv a0 a1)) + 1))))
set_option maxHeartbeats 8000000 in
set_option maxRecDepth 100000 in
theorem sandglassref02_Up.calls (a0 : Int) (a1 : Int) (r : Int) (w : World) (h : sandglassref02_Up.f a0 a1 = some r) :
    Calls Try.prog 16 #[.int .u64 a0, .int .u64 a1] w fun e w' => e = .returned (.int .u64 r) ∧ Drawn0 w w' := by
  have H : (if a1 = 0 then (some 0) else (if (Int.tmod a0 a1) = 0 then (some (IntKind.u64.wrap (Int.tdiv a0 a1))) else (some (IntKind.u64.wrap ((IntKind.u64.wrap (Int.tdiv a0 a1)) + 1))))) = some r := h
  clear h
  by_cases c3 : a1 = 0
  · rw [if_pos c3] at H
    have c3b0 : (a1 == 0) = true := beq_iff_eq.mpr c3
    have c3b1 : (a1 != 0) = false := bne_eq_false_iff_eq.mpr c3
    clear c3
    obtain rfl := Option.some.inj H
    go_enter Try.func16, Try.ntmps16
    go_wp2
    go_ret
    exact ⟨by first | (with_reducible rfl) | rfl | (simp; done) | (simp [*]; done), by repeat (first | exact Drawn0.refl _ | apply Drawn0.step)⟩
  · rw [if_neg c3] at H
    have c3b0 : (a1 == 0) = false := beq_eq_false_iff_ne.mpr c3
    have c3b1 : (a1 != 0) = true := bne_iff_ne.mpr c3
    by_cases c4 : (Int.tmod a0 a1) = 0
    · rw [if_pos c4] at H
      have c4b0 : ((Int.tmod a0 a1) == 0) = true := beq_iff_eq.mpr c4
      have c4b1 : ((Int.tmod a0 a1) != 0) = false := bne_eq_false_iff_eq.mpr c4
      clear c4
      obtain rfl := Option.some.inj H
      go_enter Try.func16, Try.ntmps16
      go_wp2
      go_ret
      exact ⟨by first | (with_reducible rfl) | rfl | (simp; done) | (simp [*]; done), by repeat (first | exact Drawn0.refl _ | apply Drawn0.step)⟩
    · rw [if_neg c4] at H
      have c4b0 : ((Int.tmod a0 a1) == 0) = false := beq_eq_false_iff_ne.mpr c4
      have c4b1 : ((Int.tmod a0 a1) != 0) = true := bne_iff_ne.mpr c4
      obtain rfl := Option.some.inj H
      go_enter Try.func16, Try.ntmps16
      go_wp2
      go_ret
      exact ⟨by first | (with_reducible rfl) | rfl | (simp; done) | (simp [*]; done), by repeat (first | exact Drawn0.refl _ | apply Drawn0.step)⟩

end Go.Proofs.Ytbjnkhlepmocjaa.Q
