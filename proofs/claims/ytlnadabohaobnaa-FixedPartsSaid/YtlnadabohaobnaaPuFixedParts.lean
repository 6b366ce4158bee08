/- FixedParts: proved of the printed functions. -/
import Derived.Test.YtlnadabohaobnaaStFixedParts
import Derived.Test.YtlnadabohaobnaaFixedLa
import Derived.Test.YtlnadabohaobnaaFixedLive
namespace Go.Proofs.Ytlnadabohaobnaa.fixedParts
open Go.RowKit Go.Proofs.YtlnadabohaobnaaW.PrintWords Go.Proofs.YtlnadabohaobnaaW.PrintLast Go.Proofs.YtlnadabohaobnaaW.PrintMore Go.Proofs.Ytlnadabohaobnaa.Q Go.Proofs.Ytlnadabohaobnaa.La
set_option linter.unusedSimpArgs false
set_option linter.unusedVariables false
theorem pure : Pure := by
  intro k l w b a v s h t x y _ _ _ _ _ _ _ _ ht0 hx0 hy0
  refine ⟨200, ?_⟩
  have T : ∀ x0 x1 x2 x3 y0 y1 y2 y3 z0 z1 z2, sandglasslaw11_FixedParts.j0 200 true x0 x1 x2 x3 y0 y1 y2 y3 z0 z1 z2 = some true := by
    intros
    simp only [show (200 : Nat) = 199 + 1 by omega, sandglasslaw11_FixedParts.j0, if_true, live_at (show 40 ≤ 199 by omega), Option.bind_some]
  unfold sandglasslaw11_FixedParts.f
  rw [few_f]
  simp only [Option.bind_some, T, weigh_r]
  cases hf : (decide (s.length ≤ 40) && decide (h.length ≤ 40))
  · simp
  simp only [if_true, may_r' (show 3 ≤ 200 by omega), Option.bind_some]
  cases hm : mayF k l w b a v s h
  · simp
  cases hx : weighF x
  · simp
  cases hy : weighF y
  · simp
  have hx' := weigh_is.1 hx
  have hy' := weigh_is.1 hy
  rw [wr (show -9223372036854775808 ≤ x + y by omega) (by omega)]
  cases hxy : weighF (x + y)
  · simp
  simp only [if_true]
  by_cases h1 : t < 0
  · rw [if_pos h1]
  rw [if_neg h1]
  by_cases h2 : t > 1099511627776
  · rw [decide_eq_true h2, T]
  rw [decide_eq_false h2]
  have ht : timeF t = true := time_is.2 (by omega)
  obtain ⟨hk, hl, hl2, hw, hw2, ha, ha2, hv, hv2, rfl, rfl⟩ := may_is hm
  have hmx := mx_le t a
  have hb := tot_bd (w := w) (a := a) (t := mx t a) hv
  simp only [show (200 : Nat) = 199 + 1 by omega, sandglasslaw11_FixedParts.j0, Bool.false_eq_true, if_false, ask_f' (show 3 ≤ 199 by omega), Option.bind_some, live_at (show 40 ≤ 199 by omega), wr (show -9223372036854775808 ≤ x + y by omega) (show x + y < 9223372036854775808 by omega), ask_is hm ht hx, ask_is hm ht hxy]
  have hmm : mx t (mx t a) = mx t a := by unfold mx; split <;> (try split) <;> omega
  have htt : ∀ z, totF w (mx t a) z (mx t a) = z := fun z => by unfold totF; rw [if_pos rfl]
  have hA : ∀ z, 0 ≤ z → z ≤ l → askV k l w b (mx t a) z [] [] t y = askF l w (mx t a) z t y := fun z h3 h4 => ask_is (may_to hm (by omega) (by omega) h3 h4) ht hy
  unfold askF
  generalize hn : totF w a v (mx t a) = n at hb
  dsimp only
  by_cases h3 : n + x ≤ l
  · simp only [if_pos h3, show (199 : Nat) = 198 + 1 by omega, sandglasslaw11_FixedParts.j1, live_at (show 40 ≤ 198 by omega), hA (n + x) (by omega) h3, if_true]
    unfold askF
    dsimp only
    rw [hmm, htt]
    by_cases h4 : n + x + y ≤ l
    · rw [if_pos h4, if_pos (show n + (x + y) ≤ l by omega)]
      simp only [Int.add_assoc, BEq.rfl, if_true, same_refl' (show 100 ≤ 198 by omega) _ _ [] [] (by simp) (by simp), Option.bind_some]
      simp
    · rw [if_neg h4, if_neg (show ¬ n + (x + y) ≤ l by omega)]
      simp
  · simp only [if_neg h3, show (199 : Nat) = 198 + 1 by omega, sandglasslaw11_FixedParts.j1, live_at (show 40 ≤ 198 by omega), hA n (by omega) (by omega), Bool.false_eq_true, if_false]
    rw [if_neg (show ¬ n + (x + y) ≤ l by omega)]
    simp
end Go.Proofs.Ytlnadabohaobnaa.fixedParts
