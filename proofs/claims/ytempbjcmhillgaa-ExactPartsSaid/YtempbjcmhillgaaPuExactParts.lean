/- ExactParts: proved of the printed functions. -/
import Derived.Test.YtempbjcmhillgaaStExactParts
import Derived.Test.YtempbjcmhillgaaExactTa
namespace Go.Proofs.Ytempbjcmhillgaa.exactParts
open Go.RowKit Go.Proofs.YtempbjcmhillgaaW.PrintWords Go.Proofs.YtempbjcmhillgaaW.PrintLast Go.Proofs.YtempbjcmhillgaaW.PrintMore Go.Proofs.Ytempbjcmhillgaa.Q Go.Proofs.Ytempbjcmhillgaa.La
set_option linter.unusedSimpArgs false
set_option linter.unusedVariables false
theorem pure : Pure := by
  intro k l w b a v s h t x y _ _ _ _ _ _ _ _ wt wx wy
  have hx64 := i64_is wx
  have hy64 := i64_is wy
  refine ⟨3000, ?_⟩
  have T : ∀ x0 x1 x2 x3 y0 y1 y2 y3 z0 z1 z2, sandglasslaw13_ExactParts.j0 3000 true x0 x1 x2 x3 y0 y1 y2 y3 z0 z1 z2 = some true := by
    intros
    simp only [show (3000 : Nat) = 2999 + 1 from rfl, sandglasslaw13_ExactParts.j0, if_true, live_at (show 40 ≤ 2999 by omega), Option.bind_some]
  unfold sandglasslaw13_ExactParts.f
  rw [few_f]
  simp only [Option.bind_some, T, weigh_r]
  cases hf : (decide (s.length ≤ 40) && decide (h.length ≤ 40))
  · simp
  simp only [Bool.and_eq_true, decide_eq_true_eq] at hf
  simp only [if_true, may_r (show 2100 ≤ 3000 by omega) k l w b a v s h (by omega), Option.bind_some]
  cases hm : mayF k l w b a v s h
  · simp
  simp only [if_true]
  cases hx : weighF x
  · simp
  cases hy : weighF y
  · simp
  have hx' := weigh_is.1 hx
  have hy' := weigh_is.1 hy
  simp only [if_true]
  rw [wr (x := x + y) (by omega) (by omega)]
  cases hxy : weighF (x + y)
  · simp
  simp only [if_true]
  by_cases h1 : t < 0
  · rw [if_pos h1]
  rw [if_neg h1]
  by_cases h2 : t > 1099511627776
  · rw [decide_eq_true h2, T]
  rw [decide_eq_false h2]
  have ht : timeF t = true := time_is.2 (by omega)
  obtain ⟨hk, l0, l1, w0, w1, a0, a1, hv, hs, ho, hc⟩ := may_is hm
  have hmx := mx_le (-1) (a - w)
  have hmu := mx_le t a
  have hr := okL_since (c := mx t a - w) ho
  have hrl := since_len (mx t a - w) h
  have L1 : ∀ p0 p1 p2 p3 p4 p5 p6 p7 q0 q1 q2 q3 q5 q6 q7, sandglasslaw13_ExactParts.j1 2999 false p0 p1 p2 p3 p4 p5 p6 p7 q0 q1 q2 q3 false q5 q6 q7 = some true := by
    intros
    simp only [show (2999 : Nat) = 2998 + 1 from rfl, sandglasslaw13_ExactParts.j1, BEq.rfl, if_true, Bool.false_eq_true, if_false, live_at (show 40 ≤ 2998 by omega), Option.bind_some]
  have eA : ∀ x, askF l w a h t x = askR l w (mx t a) (since (mx t a - w) h) x := fun x => askF_R ..
  generalize hu : mx t a = u at hmu hr hrl eA
  generalize hR : since (u - w) h = r at hr hrl eA
  have hmr := okL_mem hr.1
  by_cases c1 : cnt r + x ≤ l
  · have eA1 := (eA x).trans (askR_pos c1)
    simp only [show (3000 : Nat) = 2999 + 1 from rfl, sandglasslaw13_ExactParts.j0, Bool.false_eq_true, if_false, ask_f (show 2200 ≤ 2999 by omega) k l w b a v s h _ _ (by omega), Option.bind_some, ask_is hm ht hx, eA1, wr (show -9223372036854775808 ≤ x + y by omega) (show x + y < 9223372036854775808 by omega), ask_is hm ht hxy]
    have hor : okL l u (mx (-1) (u - w)) r = true := okL_up (okL_low hr.1 (fun z hz => by have := hmr z hz; have := hr.2 z hz; unfold mx; split <;> omega)) (fun z hz => by have := hmr z hz; omega)
    have hoq : okL l u (mx (-1) (u - w)) (addL u x r) = true := okL_add hor (by unfold mx; split <;> omega) c1 hx'.1
    have hcq := cnt_add u x r
    have hlq := add_len u x r
    have hm2 : mayF k l w b u 0 [] (addL u x r) = true := may_to hm (by omega) (by omega) hoq (by omega)
    have hid : since (u - w) (addL u x r) = addL u x r := since_id (fun z hz => by
      rcases add_mem z hz with h3 | h3
      · omega
      · exact hr.2 z h3)
    have hmu2 : mx t u = u := by unfold mx; split <;> omega
    rw [ask_f (show 2200 ≤ 2999 by omega) k l w b u 0 [] (addL u x r) t y (by omega), Option.bind_some, ask_is hm2 ht hy]
    simp only [eA, askF_R l w u, hmu2, hid, if_true]
    by_cases c2 : cnt r + x + y ≤ l
    · simp only [askR_pos (show cnt (addL u x r) + y ≤ l by omega), askR_pos (show cnt r + (x + y) ≤ l by omega), addL_twice]
      have hl3 := add_len u (x + y) r
      simp only [show (2999 : Nat) = 2998 + 1 from rfl, sandglasslaw13_ExactParts.j1, BEq.rfl, if_true, same_refl' (show 200 ≤ 2998 by omega) _ _ [] _ (by simp) (show (addL u (x + y) r).length ≤ 100 by omega), Option.bind_some, live_at (show 40 ≤ 2998 by omega), Bool.and_self]
    · simp only [askR_neg (show ¬ cnt (addL u x r) + y ≤ l by omega), askR_neg (show ¬ cnt r + (x + y) ≤ l by omega)]
      exact L1 ..
  · have eA1 := (eA x).trans (askR_neg c1)
    have eA2 := (eA (x + y)).trans (askR_neg (show ¬ cnt r + (x + y) ≤ l by omega))
    simp only [show (3000 : Nat) = 2999 + 1 from rfl, sandglasslaw13_ExactParts.j0, Bool.false_eq_true, if_false, ask_f (show 2200 ≤ 2999 by omega) k l w b a v s h _ _ (by omega), Option.bind_some, ask_is hm ht hx, eA1, eA2, wr (show -9223372036854775808 ≤ x + y by omega) (show x + y < 9223372036854775808 by omega), ask_is hm ht hxy]
    rw [ask_f (show 2200 ≤ 2999 by omega) k l w b u 0 [] r t y (by omega), Option.bind_some]
    try simp only [Bool.false_eq_true, if_false]
    exact L1 ..
end Go.Proofs.Ytempbjcmhillgaa.exactParts
