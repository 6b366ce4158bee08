/- FixedRate: proved of the printed functions. -/
import Derived.Test.YtlnadabohaobnaaStFixedRate
import Derived.Test.YtlnadabohaobnaaFixedLa
import Derived.Test.YtlnadabohaobnaaFixedLive
namespace Go.Proofs.Ytlnadabohaobnaa.fixedRate
open Go.RowKit Go.Proofs.YtlnadabohaobnaaW.PrintWords Go.Proofs.YtlnadabohaobnaaW.PrintLast Go.Proofs.YtlnadabohaobnaaW.PrintMore Go.Proofs.Ytlnadabohaobnaa.Q Go.Proofs.Ytlnadabohaobnaa.La
set_option linter.unusedSimpArgs false
set_option linter.unusedVariables false
theorem rate (l w b : Int) (l1 : List S45) (hp : polOk 2 l w b = true) (hw : 1 ≤ w) (hw2 : w ≤ 1048576) (hl : 1 ≤ l) (hl2 : l ≤ 1048576) (hlen : l1.length ≤ 40) (N : Nat) : ∀ (i t sum : Int), 0 ≤ i → (l1.length : Int) - i ≤ N → 0 ≤ t → t ≤ i * 1048576 → i ≤ 40 →
    0 ≤ sum → sum ≤ l → ∀ n, 5 * N + 50 ≤ n → sandglasslaw11_FixedRate.l0 n l1 t sum i 2 l w b t sum [] [] = some true := by
  induction N with
  | zero =>
    intro i t sum h0 h1 h2 h3 h4 h5 h6 n hn
    obtain ⟨n, rfl⟩ : ∃ m, n = m + 1 := ⟨n - 1, by omega⟩
    simp only [sandglasslaw11_FixedRate.l0]
    rw [if_neg (by omega), live_at (by omega)]; rfl
  | succ N ih =>
    intro i t sum h0 h1 h2 h3 h4 h5 h6 n hn
    obtain ⟨n, rfl⟩ : ∃ m, n = m + 5 := ⟨n - 5, by omega⟩
    simp only [sandglasslaw11_FixedRate.l0]
    by_cases hi : i < (l1.length : Int)
    · rw [if_pos hi, if_pos h0]
      generalize hx : rd_T45 l1 i = x
      have T : sandglasslaw11_FixedRate.j2 (n + 4) l1 t sum i true 2 l w b t sum [] [] = some true := by
        simp only [sandglasslaw11_FixedRate.j2, if_true, live_at (show 40 ≤ n + 3 by omega), Option.bind_some]
      by_cases hb1 : x.f0 < 0
      · rw [if_pos hb1, T]
      rw [if_neg hb1]
      by_cases hb2 : x.f0 > 1048576
      · rw [if_pos hb2, T]
      rw [if_neg hb2, weigh_r]
      simp only [Option.bind_some]
      cases hwx : weighF x.f1
      · exact T
      have hwx' := weigh_is.1 hwx
      have ht : t + x.f0 ≤ (i + 1) * 1048576 := by omega
      have htt : timeF (t + x.f0) = true := time_is.2 (by omega)
      have hq := quo_lt hw h2
      have hq2 := quo_lt hw (show 0 ≤ t + x.f0 by omega)
      have hm : mayF 2 l w b t sum [] [] = true := by
        unfold mayF; rw [hp, time_is.2 (show 0 ≤ t ∧ t ≤ 1099511627776 by omega)]; simp [h5, h6]
      have hmx : mx (t + x.f0) t = t + x.f0 := by unfold mx; split <;> omega
      -- one round: with what counts still
      have R : ∀ s2, 0 ≤ s2 → s2 ≤ l → totF w t sum (t + x.f0) = s2 → sandglasslaw11_FixedRate.j3 (n + 3) l1 t s2 i 2 l w b t sum [] [] = some true := by
        intro s2 h7 h8 h9
        simp only [sandglasslaw11_FixedRate.j3]
        rw [if_pos h0, if_pos hi, hx, wr (by omega) (by omega), wr (x := s2 + x.f1) (by omega) (by omega), ask_f' (by omega), ask_is hm htt hwx]
        unfold askF
        dsimp only
        rw [hmx, h9]
        simp only [Option.bind_some]
        by_cases h10 : s2 + x.f1 ≤ l
        · rw [if_pos h10]
          simp only [decide_eq_true h10, bne_self_eq_false, Bool.false_eq_true, if_false, if_true, sandglasslaw11_FixedRate.j4, wr (x := i + 1) (show -9223372036854775808 ≤ i + 1 by omega) (by omega)]
          rw [if_neg (by omega), wr (by omega) (by omega)]
          simp only [bne_self_eq_false, Bool.false_eq_true, if_false, sandglasslaw11_FixedRate.j5, wr (x := i + 1) (show -9223372036854775808 ≤ i + 1 by omega) (by omega)]
          exact ih (i + 1) _ _ (by omega) (by omega) (by omega) ht (by omega) (by omega) h10 n (by omega)
        · rw [if_neg h10]
          simp only [decide_eq_false h10, bne_self_eq_false, Bool.false_eq_true, if_false, sandglasslaw11_FixedRate.j4]
          rw [if_neg (by omega), wr (by omega) (by omega)]
          simp only [bne_self_eq_false, Bool.false_eq_true, if_false, sandglasslaw11_FixedRate.j5, wr (x := i + 1) (show -9223372036854775808 ≤ i + 1 by omega) (by omega)]
          exact ih (i + 1) _ _ (by omega) (by omega) (by omega) ht (by omega) (by omega) (by omega) n (by omega)
      simp only [sandglasslaw11_FixedRate.j2, Bool.not_true, Bool.false_eq_true, if_false]
      rw [if_pos h0, if_pos hi, if_neg (show ¬ w = 0 by omega), hx, wr (x := t + x.f0) (by omega) (by omega), Int.tdiv_eq_ediv_of_nonneg (show 0 ≤ t + x.f0 by omega), Int.tdiv_eq_ediv_of_nonneg h2, wr (x := (t + x.f0) / w) (by omega) (by omega), wr (x := t / w) (by omega) (by omega)]
      by_cases hsame : (t + x.f0) / w = t / w
      · rw [if_pos hsame]
        exact R sum h5 h6 (by unfold totF; rw [if_pos hsame])
      · rw [if_neg hsame]
        exact R 0 (by omega) (by omega) (by unfold totF; rw [if_neg hsame])
    · rw [if_neg hi, live_at (by omega)]; rfl
theorem pure : Pure := by
  intro k l w b l1 _ _ _ _ _
  refine ⟨300, ?_⟩
  have T : ∀ x0 x1 x2 x3, sandglasslaw11_FixedRate.j0 300 l1 true x0 x1 x2 x3 = some true := by
    intros
    simp only [show (300 : Nat) = 299 + 1 by omega, sandglasslaw11_FixedRate.j0, if_true, live_at (show 40 ≤ 299 by omega), Option.bind_some]
  unfold sandglasslaw11_FixedRate.f
  simp only [T, check_r' (show 3 ≤ 300 by omega), Option.bind_some]
  by_cases h1 : (l1.length : Int) > 40
  · rw [if_pos h1]
  rw [if_neg h1]
  cases hp : polOk k l w b
  · simp
  simp only [if_true]
  by_cases hk : k = 2
  · subst hk
    have hp' := hp
    unfold polOk withinB at hp'
    simp only [Bool.and_eq_true, decide_eq_true_eq] at hp'
    obtain ⟨⟨⟨_, hl⟩, hw⟩, _⟩ := hp'
    simp only [bne_self_eq_false, show (300 : Nat) = 299 + 1 by omega, sandglasslaw11_FixedRate.j0, Bool.false_eq_true, if_false]
    exact rate l w b l1 hp hw.1 hw.2 hl.1 hl.2 (by omega) 40 0 0 0 (by omega) (by omega) (by omega) (by omega) (by omega) (by omega) (by omega) 299 (by omega)
  · rw [show (k != 2) = true by simpa using hk, T]
end Go.Proofs.Ytlnadabohaobnaa.fixedRate
