-- Laid by wip/tools/hprint.py, a program of this repo, over the kit's print; not a text of print.sh.
import Derived.Test.YteljllpkjhkanaaQ0
import Derived.Test.YteljllpkjhkanaaQ11
namespace Go.Proofs.Yteljllpkjhkanaa.Q
open Go.RowKit Go.Proofs.Yteljllpkjhkanaa.Zip Go.Proofs.YteljllpkjhkanaaW.PrintWords Go.Proofs.YteljllpkjhkanaaW.PrintLast Go.Proofs.YteljllpkjhkanaaW.PrintMore
attribute [local go_sem] max2_int min2_int max_two min_two max_three min_three max_four min_four   -- for this text's walks alone
set_option linter.unusedVariables false
set_option linter.unusedSimpArgs false

/-! ### sandglasslaw20_few: function 7 -/
def sandglasslaw20_few.f (k : Nat) (l0 : List ByteArray) : Option (Bool) := if (l0.length : Int) ≤ 40 then ((sandglasslaw20_all.f k l0).bind fun t106 => (some (decide ((t106.size : Int) ≤ 4000)))) else (none)
theorem sandglasslaw20_few.mono : ∀ a0 k, LeO (sandglasslaw20_few.f k a0) (sandglasslaw20_few.f (k + 1) a0) := by
  intro a0 k
  unfold sandglasslaw20_few.f
  repeat' first
      | (with_reducible exact sandglasslaw20_all.mono _ _)
      | (with_reducible exact LeO.refl _)
      | (with_reducible exact LeO.none _)
      | (with_reducible refine LeO.ite ?_ ?_)
      | (with_reducible refine LeO.bind ?_ (fun _ => ?_))
      | exact sandglasslaw20_all.mono _ _
      | exact LeO.none _
      | refine LeO.ite ?_ ?_
      | refine LeO.bind ?_ (fun _ => ?_)
set_option maxHeartbeats 8000000 in
set_option maxRecDepth 100000 in
theorem sandglasslaw20_few.calls (k : Nat) (A0 : Option Addr) (c0 : Nat) (l0 : List ByteArray) (r : Bool) (w : World) (hr0 : Kd.C Kd.string w A0 l0.length l0) (hc0 : l0.length ≤ c0) (h : sandglasslaw20_few.f k l0 = some r) :
    Calls Try.prog 7 #[.slice A0 l0.length c0] w fun e w' => e = .returned (.bool r) ∧ Drawn0 w w' := by
  have HR0 := Aside0.mk hr0
  have HC0 := Aside0.mk hc0
  clear hr0 hc0
  have H : (if (l0.length : Int) ≤ 40 then ((sandglasslaw20_all.f k l0).bind fun t106 => (some (decide ((t106.size : Int) ≤ 4000)))) else (none)) = some r := h
  clear h
  by_cases c2 : (l0.length : Int) ≤ 40
  · rw [if_pos c2] at H
    have c2b0 : decide ((l0.length : Int) ≤ 40) = true := decide_eq_true c2
    have c2b1 : decide (l0.length ≤ 40) = true := decide_eq_true (by omega)
    clear c2
    replace H := Option.bind_eq_some_iff.mp H
    obtain ⟨t106, A30, H⟩ := H
    have A3 := Aside0.mk A30
    clear A30
    obtain rfl := Option.some.inj H
    go_enter Try.func7, Try.ntmps7
    go_wp2_with (first | (go_at_call 14; (with_reducible refine (sandglasslaw20_all.calls k _ _ l0 t106 _ ?side1 ?side2 A3.out).mono ?_); (case side1 => repeat (first | exact HR0.out | (with_reducible refine Kd.C_alloc ?_ _) | (with_reducible refine Kd.C_drewN ?_ _) | (with_reducible refine Kd.C_drew ?_))); (case side2 => exact HC0.out); rintro e w' ⟨rfl, ⟨nd, rfl⟩⟩))
    go_ret
    exact ⟨by first | (with_reducible rfl) | rfl | (simp; done) | (simp [*]; done), by repeat (first | exact Drawn0.refl _ | apply Drawn0.step)⟩
  · rw [if_neg c2] at H
    exact absurd H (by simp)

end Go.Proofs.Yteljllpkjhkanaa.Q
