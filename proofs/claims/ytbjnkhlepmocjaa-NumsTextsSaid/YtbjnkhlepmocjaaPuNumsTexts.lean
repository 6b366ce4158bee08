/- NumsTexts: proved of the printed functions. -/
import Derived.Test.YtbjnkhlepmocjaaStNumsTexts
import Derived.Test.YtbjnkhlepmocjaaNumsLb
namespace Go.Proofs.Ytbjnkhlepmocjaa.numsTexts
open Go.RowKit Go.Proofs.YtbjnkhlepmocjaaW.PrintWords Go.Proofs.YtbjnkhlepmocjaaW.PrintLast Go.Proofs.YtbjnkhlepmocjaaW.PrintMore Go.Proofs.Ytbjnkhlepmocjaa.Q Go.Proofs.Ytbjnkhlepmocjaa.La
set_option linter.unusedSimpArgs false
set_option linter.unusedVariables false
theorem put_r (s : ByteArray) : sandglassref02_Put.f s = some (putV s) := put_f s
theorem bt_at (s : ByteArray) (v : Nat) (h : v < s.size) : bt s (v : Int) = (byteAt s v : Int) := bt_is s v h
theorem text_r {n : Nat} (hn : 5 ≤ n) (s : ByteArray) (a : Int) (hs : s.size ≤ 1000000) : sandglassref02_Text.f n s a = some (textV s a) := by
  obtain ⟨n, rfl⟩ : ∃ m, n = m + 2 := ⟨n - 2, by omega⟩
  unfold sandglassref02_Text.f textV
  by_cases h : a < 0
  · rw [if_pos h, if_pos (Or.inl h)]; simp [sandglassref02_Text.j0]
  rw [if_neg h]
  by_cases h2 : a > (s.size : Int)
  · rw [decide_eq_true h2, if_pos (Or.inr h2)]; simp [sandglassref02_Text.j0]
  rw [decide_eq_false h2, if_neg (by omega)]
  obtain ⟨v, rfl⟩ : ∃ v : Nat, a = v := ⟨a.toNat, by omega⟩
  simp only [sandglassref02_Text.j0, Bool.false_eq_true, if_false, Int.toNat_natCast]
  by_cases h3 : (v : Int) = (s.size : Int)
  · rw [if_pos h3, if_pos (Or.inl h3)]; simp [sandglassref02_Text.j1]
  rw [if_neg h3, if_pos (by omega), if_pos (by omega), bt_at s v (by omega)]
  have hb := byteAt_lt s v
  rw [wr (x := (byteAt s v : Int)) (by omega) (by omega), wr (x := (s.size : Int) - v) (by omega) (by omega), wr (x := (s.size : Int) - v - 1) (by omega) (by omega)]
  by_cases h4 : (s.size : Int) - v - 1 < (byteAt s v : Int)
  · rw [decide_eq_true (show (byteAt s v : Int) > (s.size : Int) - v - 1 from h4), if_pos (Or.inr h4)]; simp [sandglassref02_Text.j1]
  · rw [decide_eq_false (show ¬ (byteAt s v : Int) > (s.size : Int) - v - 1 from h4), if_neg (show ¬ ((v : Int) = (s.size : Int) ∨ (s.size : Int) - v - 1 < (byteAt s v : Int)) by omega)]
    simp only [sandglassref02_Text.j1, Bool.false_eq_true, if_false]
    rw [if_pos (by omega), if_pos (by omega), bt_at s v (by omega), wr (x := (byteAt s v : Int)) (by omega) (by omega), wr (x := (v : Int) + 1) (by omega) (by omega), wr (x := (v : Int) + 1 + (byteAt s v : Int)) (by omega) (by omega), if_pos (by omega), if_pos (by omega), if_pos (by omega)]
    have e1 : ((v : Int) + 1).toNat = v + 1 := by omega
    have e2 : ((v : Int) + 1 + (byteAt s v : Int)).toNat = v + 1 + byteAt s v := by omega
    rw [e1, e2]
theorem pure : Pure := by
  intro s a hs wa
  refine ⟨60, ?_⟩
  unfold sandglasslaw02_NumsTexts.f
  by_cases h : (s.size : Int) > 600
  · rw [if_pos h]; simp only [live_at (show 40 ≤ 60 by omega), Option.bind_some]
  · rw [if_neg h]
    simp only [put_f, put_r, text_f s a (by omega), text_r (show 5 ≤ 60 by omega) s a (by omega), Option.bind_some, if_true, BEq.rfl, live_at (show 40 ≤ 60 by omega)]
end Go.Proofs.Ytbjnkhlepmocjaa.numsTexts
