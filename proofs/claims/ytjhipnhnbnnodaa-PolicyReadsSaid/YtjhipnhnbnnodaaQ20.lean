-- Laid by wip/tools/hprint.py, a program of this repo, over the kit's print; not a text of print.sh.
import Derived.Test.YtjhipnhnbnnodaaQ0
namespace Go.Proofs.Ytjhipnhnbnnodaa.Q
open Go.RowKit Go.Proofs.Ytjhipnhnbnnodaa.Zip Go.Proofs.YtjhipnhnbnnodaaW.PrintWords Go.Proofs.YtjhipnhnbnnodaaW.PrintLast Go.Proofs.YtjhipnhnbnnodaaW.PrintMore
attribute [local go_sem] max2_int min2_int max_two min_two max_three min_three max_four min_four   -- for this text's walks alone
set_option linter.unusedVariables false
set_option linter.unusedSimpArgs false

/-! ### sandglassref02_Narrow: function 26 -/
def sandglassref02_Narrow.l0 : Nat → ByteArray → Int → Int → Option (Int × Bool)
  | 0, _, _, _ => none
  | k + 1, x0, x4, x5 => if x5 < (x0.size : Int) then (if 0 ≤ x5 then (sandglassref02_Narrow.l0 k x0 (IntKind.u64.wrap ((IntKind.u64.wrap (256 * x4)) + (IntKind.u64.wrap (bt x0 x5)))) (wrap64 (x5 + 1))) else (none)) else (some (x4, true))
def sandglassref02_Narrow.f (k : Nat) (a0 : ByteArray) : Option (Int × Bool) := if (a0.size : Int) > 8 then (some (0, false)) else (sandglassref02_Narrow.l0 k a0 0 0)
theorem sandglassref02_Narrow.mono_l : ∀ k, (∀ y0 y1 y2, LeO (sandglassref02_Narrow.l0 k y0 y1 y2) (sandglassref02_Narrow.l0 (k + 1) y0 y1 y2))
  | 0 => fun _ _ _ r h => by simp [sandglassref02_Narrow.l0] at h
  | k + 1 => by
    have ih0 := sandglassref02_Narrow.mono_l k
    · intro y0 y1 y2
      unfold sandglassref02_Narrow.l0
      repeat' first
      | (with_reducible exact ih0 _ _ _)
      | (with_reducible exact LeO.refl _)
      | (with_reducible exact LeO.none _)
      | (with_reducible refine LeO.ite ?_ ?_)
      | (with_reducible refine LeO.bind ?_ (fun _ => ?_))
      | exact ih0 _ _ _
      | exact LeO.none _
      | refine LeO.ite ?_ ?_
      | refine LeO.bind ?_ (fun _ => ?_)
theorem sandglassref02_Narrow.mono : ∀ a0 k, LeO (sandglassref02_Narrow.f k a0) (sandglassref02_Narrow.f (k + 1) a0) := by
  intro a0 k
  have ih0 := sandglassref02_Narrow.mono_l k
  unfold sandglassref02_Narrow.f
  repeat' first
      | (with_reducible exact ih0 _ _ _)
      | (with_reducible exact LeO.refl _)
      | (with_reducible exact LeO.none _)
      | (with_reducible refine LeO.ite ?_ ?_)
      | (with_reducible refine LeO.bind ?_ (fun _ => ?_))
      | exact ih0 _ _ _
      | exact LeO.none _
      | refine LeO.ite ?_ ?_
      | refine LeO.bind ?_ (fun _ => ?_)
set_option maxHeartbeats 8000000 in
set_option maxRecDepth 100000 in
theorem sandglassref02_Narrow.calls (k : Nat) (a0 : ByteArray) (r1 : Int) (r2 : Bool) (w : World) (h : sandglassref02_Narrow.f k a0 = some (r1, r2)) :
    Calls Try.prog 26 #[.string a0] w fun e w' => e = .returned (.tuple #[.int .u64 r1, .bool r2]) ∧ Drawn0 w w' := by
  have H : (if (a0.size : Int) > 8 then (some (0, false)) else (sandglassref02_Narrow.l0 k a0 0 0)) = some (r1, r2) := h
  clear h
  by_cases c2 : (a0.size : Int) > 8
  · rw [if_pos c2] at H
    have c2b0 : decide (8 < (a0.size : Int)) = true := decide_eq_true c2
    have c2b1 : decide (8 < a0.size) = true := decide_eq_true (by omega)
    clear c2
    simp only [Option.some.injEq, Prod.mk.injEq] at H
    obtain ⟨rfl, rfl⟩ := H
    go_enter Try.func26, Try.ntmps26
    go_wp2
    go_ret2
    exact ⟨by first | (with_reducible rfl) | rfl | (simp; done) | (simp [*]; done), by repeat (first | exact Drawn0.refl _ | apply Drawn0.step)⟩
  · rw [if_neg c2] at H
    have c2b0 : decide (8 < (a0.size : Int)) = false := decide_eq_false c2
    have c2b1 : decide (8 < a0.size) = false := decide_eq_false (by omega)
    clear c2
    have H' := Aside0.mk H
    clear H
    go_enter Try.func26, Try.ntmps26
    go_wp2
    go_loopg [4, 5] k (fun kq v4 v5 w' => ∃ (x4_1 : Int) (x5_1 : Int), v4 = .int .u64 x4_1 ∧ v5 = .int .i64 x5_1 ∧ Aside0 (sandglassref02_Narrow.l0 kq a0 x4_1 x5_1 = some (r1, r2)) ∧ Aside0 (kq ≤ k) ∧ Drawn0 w w')
    case atStart => exact ⟨(0), (0), (by first | (with_reducible rfl) | rfl | (simp; done) | (simp [*]; done)), (by first | (with_reducible rfl) | rfl | (simp; done) | (simp [*]; done)), H', ⟨Nat.le_refl _⟩, by repeat (first | exact Drawn0.refl _ | apply Drawn0.step)⟩
    case round =>
      clear H'
      try clear c2
      try clear c2b0
      try clear c2b1
      try clear p2
      obtain ⟨x4_1, x5_1, rfl, rfl, HA, HK1, ⟨m1, rfl⟩⟩ := hrel
      cases gk with
      | zero => exact absurd HA.out (by simp [sandglassref02_Narrow.l0])
      | succ k1 =>
        have H := HA.out
        clear HA
        simp only [sandglassref02_Narrow.l0] at H
        by_cases c3 : x5_1 < (a0.size : Int)
        · rw [if_pos c3] at H
          have c3b0 : decide (x5_1 < (a0.size : Int)) = true := decide_eq_true c3
          clear c3
          by_cases c4 : 0 ≤ x5_1
          · rw [if_pos c4] at H
            have c4b0 : decide (0 ≤ x5_1) = true := decide_eq_true c4
            clear c4
            have H' := Aside0.mk H
            clear H
            have p5 : 0 ≤ (x5_1 : Int) := of_decide_eq_true (by first | (with_reducible assumption) | assumption)
            have q5 : x5_1 < (a0.size : Int) := of_decide_eq_true (by first | (with_reducible assumption) | assumption)
            have hx5 := bt_at a0 x5_1
            replace p5 := eq_true p5
            replace q5 := eq_true q5
            go_wp2
            go_roundg k1
            case measure => have := HK1.out; omega
            case rel => exact ⟨(IntKind.u64.wrap ((IntKind.u64.wrap (256 * x4_1)) + (IntKind.u64.wrap (bt a0 x5_1)))), (wrap64 (x5_1 + 1)), (by first | (with_reducible rfl) | rfl | (simp; done) | (simp [*]; done)), (by first | (with_reducible rfl) | rfl | (simp; done) | (simp [*]; done)), H', ⟨by have := HK1.out; omega⟩, by repeat (first | exact Drawn0.refl _ | apply Drawn0.step)⟩
          · rw [if_neg c4] at H
            exact absurd H (by simp)
        · rw [if_neg c3] at H
          have c3b0 : decide (x5_1 < (a0.size : Int)) = false := decide_eq_false c3
          clear c3
          simp only [Option.some.injEq, Prod.mk.injEq] at H
          obtain ⟨rfl, rfl⟩ := H
          go_wp2
          go_ret2
          exact ⟨by first | (with_reducible rfl) | rfl | (simp; done) | (simp [*]; done), by repeat (first | exact Drawn0.refl _ | apply Drawn0.step)⟩

end Go.Proofs.Ytjhipnhnbnnodaa.Q
