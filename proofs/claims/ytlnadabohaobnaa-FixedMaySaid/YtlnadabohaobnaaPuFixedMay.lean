/- FixedMay: proved of the printed functions. -/
import Derived.Test.YtlnadabohaobnaaStFixedMay
import Derived.Test.YtlnadabohaobnaaFixedLa
import Derived.Test.YtlnadabohaobnaaFixedLive
namespace Go.Proofs.Ytlnadabohaobnaa.fixedMay
open Go.RowKit Go.Proofs.YtlnadabohaobnaaW.PrintWords Go.Proofs.YtlnadabohaobnaaW.PrintLast Go.Proofs.YtlnadabohaobnaaW.PrintMore Go.Proofs.Ytlnadabohaobnaa.Q Go.Proofs.Ytlnadabohaobnaa.La
set_option linter.unusedSimpArgs false
set_option linter.unusedVariables false
theorem pure : Pure := by
  intro k l w b a v s h t x _ _ _ _ _ _ _ _ _ _
  refine ⟨200, ?_⟩
  have T : ∀ x0 x1 x2 x3 y0 y1 y2 y3 z0 z1, sandglasslaw11_FixedMay.j0 200 z0 z1 true x0 x1 x2 x3 y0 y1 y2 y3 = some true := by
    intros
    simp only [show (200 : Nat) = 199 + 1 by omega, sandglasslaw11_FixedMay.j0, if_true, live_at (show 40 ≤ 199 by omega), Option.bind_some]
  unfold sandglasslaw11_FixedMay.f
  rw [few_f]
  simp only [Option.bind_some, T, weigh_r]
  cases hf : (decide (s.length ≤ 40) && decide (h.length ≤ 40))
  · simp
  simp only [if_true, may_r' (show 3 ≤ 200 by omega), Option.bind_some]
  cases hm : mayF k l w b a v s h
  · simp
  simp only [if_true]
  by_cases h1 : t < 0
  · rw [if_pos h1]
  rw [if_neg h1]
  by_cases h2 : t > 549755813888
  · rw [if_pos h2]
  rw [if_neg h2]
  by_cases h3 : a > 549755813888
  · rw [if_pos h3]
  rw [if_neg h3]
  cases hx : weighF x
  · exact T ..
  simp only [Bool.not_true]
  have ht : timeF t = true := time_is.2 (by omega)
  have hx' := weigh_is.1 hx
  obtain ⟨hk, hl, hl2, hw, hw2, ha, ha2, hv, hv2, rfl, rfl⟩ := may_is hm
  have hmx := mx_le t a
  have hb := tot_bd (w := w) (a := a) (t := mx t a) hv
  have hq := quo_lt hw (show 0 ≤ mx t a by omega)
  -- what is left: the tick, the level, how much more, when
  obtain ⟨n, hn0, hnl, rem, retry, reset, al, hA, hrem, hreset, hal, hno⟩ : ∃ n, 0 ≤ n ∧ n ≤ l ∧ ∃ (rem retry reset : Int) (al : Bool), askF l w a v t x = (mx t a, n, [], [], al, rem, retry, reset) ∧ rem = l - n ∧ reset = (if n > 0 then nextF w (mx t a) else 0) ∧ (al = true → retry = 0) ∧ (al = false → ¬ n + x ≤ l ∧ retry = (if x > l then 2199023255552 else nextF w (mx t a)) ∧ (x ≤ l → 0 < n)) := by
    unfold askF
    dsimp only
    by_cases h4 : totF w a v (mx t a) + x ≤ l
    · rw [if_pos h4]; exact ⟨_, by omega, h4, _, _, _, _, rfl, rfl, rfl, fun _ => rfl, fun h => by cases h⟩
    · rw [if_neg h4]; exact ⟨_, by omega, by omega, _, _, _, _, rfl, rfl, rfl, fun h => by (cases h), fun _ => ⟨h4, rfl, fun _ => by omega⟩⟩
  generalize hT : mx t a = u at *
  have hnx : nextF w u = w * (u / w) + w - u := rfl
  have hmu : mayF k l w b u n [] [] = true := may_to hm (by omega) (by omega) hn0 hnl
  have hres0 : 0 ≤ reset ∧ reset ≤ w := by rw [hreset, hnx]; split <;> omega
  -- at u + reset nothing is left; one tick before, it is
  have htot : ∀ z, u ≤ z → z ≤ 1099511627776 → total true w u n z = totF w u n z := by
    intro z h4 h5
    unfold total
    rw [time_is.2 (show 0 ≤ z ∧ z ≤ 1099511627776 by omega)]
    have : mx z u = z := by unfold mx; split <;> omega
    rw [this]; rfl
  have hsame : ∀ z, u ≤ z → z < u + nextF w u → totF w u n z = n := by
    intro z h4 h5
    unfold totF
    have h6 := quo_lt hw (show 0 ≤ z by omega)
    rw [hnx] at h5
    have : z / w = u / w := by
      have h7 : z / w < u / w + 1 := Int.ediv_lt_of_lt_mul (by omega) (by rw [Int.add_mul, Int.one_mul, Int.mul_comm (u / w) w]; omega)
      have h8 : u / w ≤ z / w := Int.ediv_le_ediv (by omega) h4
      omega
    rw [if_pos this]
  have hzero : totF w u n (u + nextF w u) = 0 := by
    unfold totF
    have : ¬ (u + nextF w u) / w = u / w := by
      intro h6
      have h7 := quo_lt hw (show 0 ≤ u + nextF w u by omega)
      rw [h6] at h7; omega
    rw [if_neg this]
  simp only [show (200 : Nat) = 199 + 1 by omega, sandglasslaw11_FixedMay.j0, Bool.false_eq_true, if_false, ask_f' (show 3 ≤ 199 by omega), Option.bind_some, ask_is hm ht hx, hA, may_f, hmu, if_true, hT, total_f' (show 1 ≤ 199 by omega)]
  have hn' : total true w u n u = n := by rw [htot u (by omega) (by omega)]; exact hsame u (by omega) (by omega)
  rw [hn', wr (show -9223372036854775808 ≤ l - n by omega) (by omega), if_pos hrem, decide_eq_false (show ¬ rem < 0 by omega)]
  simp only [show (199 : Nat) = 198 + 1 by omega, sandglasslaw11_FixedMay.j1, Bool.false_eq_true, if_false, ask_f' (show 3 ≤ 198 by omega), Option.bind_some]
  have hmuu : mx u u = u := by unfold mx; split <;> rfl
  have hmore : rem > 0 → (askV k l w b u n [] [] u rem).2.2.2.2.1 = true := by
    intro h4
    rw [ask_is hmu (time_is.2 (by omega)) (weigh_is.2 (by omega))]
    unfold askF
    dsimp only
    rw [hmuu, hsame u (by omega) (by omega), if_pos (by omega)]
  have J3 : sandglasslaw11_FixedMay.j3 197 x (ends k l w b u n [] [] != u + reset) k l w b u n [] [] al rem retry reset = some true := by
    have he : ends k l w b u n [] [] = u + reset := by
      unfold ends
      rw [hmu, hreset, hnx]
      simp only [if_true]
      by_cases h4 : n = 0
      · rw [if_pos h4, if_neg (by omega)]; omega
      · rw [if_neg h4, if_pos (by omega)]; omega
    rw [he]
    simp only [show (197 : Nat) = 196 + 1 by omega, sandglasslaw11_FixedMay.j3, bne_self_eq_false, Bool.false_eq_true, if_false, live_at (show 40 ≤ 196 by omega), Option.bind_some]
    cases al
    · obtain ⟨h4, h5, h6⟩ := hno rfl
      simp only [Bool.false_eq_true, if_false]
      by_cases h7 : x > l
      · rw [if_pos h7, if_pos (by rw [h5, if_pos h7])]
      · rw [if_neg h7]
        rw [if_neg h7] at h5
        rw [h5]
        rw [wr (show -9223372036854775808 ≤ u + nextF w u by omega) (by omega), wr (show -9223372036854775808 ≤ u + nextF w u - 1 by omega) (by omega)]
        simp only [ask_f' (show 3 ≤ 196 by omega), Option.bind_some]
        rw [ask_is hmu (time_is.2 (show 0 ≤ u + nextF w u ∧ u + nextF w u ≤ 1099511627776 by omega)) hx, ask_is hmu (time_is.2 (show 0 ≤ u + nextF w u - 1 ∧ u + nextF w u - 1 ≤ 1099511627776 by omega)) hx]
        have e1 : mx (u + nextF w u) u = u + nextF w u := by unfold mx; split <;> omega
        have e2 : mx (u + nextF w u - 1) u = u + nextF w u - 1 := by unfold mx; split <;> omega
        unfold askF
        dsimp only
        rw [e1, e2, hzero, hsame (u + nextF w u - 1) (by omega) (by omega), if_pos (show (0 : Int) + x ≤ l by omega), if_neg h4, if_pos (show nextF w u > 0 by omega)]
        simp
    · simp only [if_true]
      rw [if_pos (hal rfl)]
  have J2 : sandglasslaw11_FixedMay.j2 198 x k l w b u n [] [] al rem retry reset = some true := by
    simp only [show (198 : Nat) = 197 + 1 by omega, sandglasslaw11_FixedMay.j2, total_f' (show 1 ≤ 197 by omega), hmu, Option.bind_some, ends_f]
    rw [wr (show -9223372036854775808 ≤ u + reset by omega) (by omega), wr (show -9223372036854775808 ≤ u + reset - 1 by omega) (by omega)]
    have e0 : total true w u n (u + reset) = 0 := by
      rw [htot _ (by omega) (by omega), hreset]
      by_cases h4 : n > 0
      · rw [if_pos h4]; exact hzero
      · rw [if_neg h4]; have : n = 0 := by omega
        rw [this]; unfold totF; split <;> rfl
    rw [e0, if_pos rfl]
    by_cases h4 : reset > 0
    · rw [if_pos h4]
      have h5 : n > 0 := by
        apply Decidable.byContradiction; intro h5; rw [hreset, if_neg h5] at h4; omega
      have h6 : reset = nextF w u := by rw [hreset, if_pos h5]
      rw [htot _ (by omega) (by omega), hsame (u + reset - 1) (by omega) (by omega), if_neg (by omega)]
      exact J3
    · rw [if_neg h4]
      exact J3
  by_cases h4 : rem > 0
  · rw [if_pos h4, hmore h4, if_pos rfl]
    exact J2
  · rw [if_neg h4]
    exact J2
end Go.Proofs.Ytlnadabohaobnaa.fixedMay
