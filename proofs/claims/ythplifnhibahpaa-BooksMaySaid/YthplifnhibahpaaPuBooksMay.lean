/- BooksMay: proved of the printed functions. -/
import Derived.Test.YthplifnhibahpaaStBooksMay
import Derived.Test.YthplifnhibahpaaBooksSa
namespace Go.Proofs.Ythplifnhibahpaa.booksMay
open Go.RowKit Go.Proofs.YthplifnhibahpaaW.PrintWords Go.Proofs.YthplifnhibahpaaW.PrintLast Go.Proofs.YthplifnhibahpaaW.PrintMore Go.Proofs.Ythplifnhibahpaa.Q Go.Proofs.Ythplifnhibahpaa.La
set_option linter.unusedSimpArgs false
set_option linter.unusedVariables false
theorem pure : Pure := by
  intro l i j a b c d _ _ _ _ _ _ _
  refine ⟨3000, ?_⟩
  have T : sandglasslaw16_BooksMay.j0 3000 l true i j a b c d = some true := by
    simp only [show (3000 : Nat) = 2999 + 1 from rfl, sandglasslaw16_BooksMay.j0, if_true, live_at (show 40 ≤ 2999 by omega), Option.bind_some]
  unfold sandglasslaw16_BooksMay.f
  by_cases hl : (l.length : Int) > 20
  · rw [if_pos hl, T]
  rw [if_neg hl, may_f (show 12 ≤ 3000 by omega), Option.bind_some]
  cases h : mayF l
  · simp [T]
  have h8 := may_len h
  rw [if_pos rfl, show ((l.length : Int) != 8) = false by simp [h8]]
  have hs := set_may h i a b c d
  have hd := del_may h i
  have hsl := set_len l i a b c d
  have hdl := del_len l i
  have os : ∀ j, j ≠ i → getF (setF l i a b c d).1 j = getF l j := fun j hj => set_other h a b c d hj
  have od : ∀ j, j ≠ i → getF (delF l i).1 j = getF l j := fun j hj => del_other h hj
  -- the last part
  have J4 : ∀ n, 100 ≤ n → sandglasslaw16_BooksMay.j4 (n + 1) l (setF l i a b c d).1 (delF l i).1 i j = some true := by
    intro n hn
    simp only [sandglasslaw16_BooksMay.j4]
    by_cases e : i = j
    · rw [if_pos e, live_at (show 40 ≤ n by omega)]; rfl
    · rw [if_neg e]
      simp only [get_f (show 12 ≤ n by omega), os j (fun q => e q.symm), od j (fun q => e q.symm), Option.bind_some, BEq.rfl, Bool.and_self, if_true, live_at (show 40 ≤ n by omega)]
  have J3 : ∀ n, 100 ≤ n → sandglasslaw16_BooksMay.j3 (n + 2) l (setF l i a b c d).1 (delF l i).1 (delF l i).2 i j = some true := by
    intro n hn
    simp only [show n + 2 = (n + 1) + 1 from rfl, sandglasslaw16_BooksMay.j3]
    rcases del_cases l i with ⟨ht, hb, e⟩ | ⟨x, hx, e⟩
    · rw [if_pos (by rw [e]), get_f (show 12 ≤ n + 1 by omega), Option.bind_some]
      have hd' := hd
      rw [e] at hd'
      have : getF (delF l i).1 i = (0, 0, 0, 0, 0, 5) := by rw [e]; exact get_put_same ht hd'
      rw [this, if_pos rfl, J4 n hn]
    · rw [if_neg (by rw [e]; exact hx), J4 n hn]
  have J1 : ∀ n, 1100 ≤ n → sandglasslaw16_BooksMay.j1 (n + 5) l (setF l i a b c d).1 (setF l i a b c d).2.1 (setF l i a b c d).2.2 (delF l i).1 (delF l i).2 false i j a b c d = some true := by
    intro n hn
    simp only [show n + 5 = (n + 4) + 1 from rfl, sandglasslaw16_BooksMay.j1, Bool.false_eq_true, if_false]
    rcases set_cases l i a b c d with ⟨ht, hp, hv, e⟩ | ⟨x, hx, e⟩
    · have q := there_is ht
      have v := ver_is ht
      have hs' := hs
      rw [e] at hs'
      have g : getF (setF l i a b c d).1 i = (a, b, c, d, (rd_T43 l i).f2 + 1, 0) := by rw [e]; exact get_put_same ht hs'
      rw [if_pos (by rw [e]), get_f (show 12 ≤ n + 4 by omega), Option.bind_some, g]
      simp only [BEq.rfl, Bool.not_true, Bool.or_self, Bool.false_eq_true, if_false]
      rw [if_pos (by rw [e]), if_pos trivial, if_pos q.2.1, if_pos (by omega), wr (by omega) (by omega), if_pos (by rw [e]), show n + 4 = (n + 1) + 3 from rfl, refCheck, Option.bind_some, hp]
      simp only [if_true, show n + 1 + 3 = (n + 3) + 1 from rfl, sandglasslaw16_BooksMay.j2, show ((0 : Int) != 0) = false from rfl, Bool.false_eq_true, if_false]
      exact J3 (n + 1) (by omega)
    · rw [if_neg (by rw [e]; exact hx)]
      exact J3 (n + 2) (by omega)
  simp only [show (3000 : Nat) = 2999 + 1 from rfl, sandglasslaw16_BooksMay.j0, Bool.false_eq_true, if_false]
  rw [set_f (show 12 ≤ 2999 by omega), Option.bind_some, del_f (show 12 ≤ 2999 by omega), Option.bind_some, may_f (show 12 ≤ 2999 by omega), hs, Option.bind_some, if_pos rfl, may_f (show 12 ≤ 2999 by omega), hd, Option.bind_some, if_pos rfl]
  have D : (if (delF l i).2 = 0 then sandglasslaw16_BooksMay.j1 2999 l (setF l i a b c d).1 (setF l i a b c d).2.1 (setF l i a b c d).2.2 (delF l i).1 (delF l i).2 false i j a b c d else ((sandglassref16_Same.f 2999 (delF l i).1 l).bind fun t304 => sandglasslaw16_BooksMay.j1 2999 l (setF l i a b c d).1 (setF l i a b c d).2.1 (setF l i a b c d).2.2 (delF l i).1 (delF l i).2 (!t304) i j a b c d)) = some true := by
    rcases del_cases l i with ⟨ht, hb, e⟩ | ⟨x, hx, e⟩
    · rw [if_pos (by rw [e])]; exact J1 2994 (by omega)
    · rw [if_neg (by rw [e]; exact hx), show (delF l i).1 = l by rw [e], same_f (show 1002 ≤ 2999 by omega) (show l.length ≤ 1000 by omega), Option.bind_some]
      have := J1 2994 (by omega)
      rw [show (delF l i).1 = l by rw [e]] at this
      exact this
  rcases set_cases l i a b c d with ⟨ht, hp, hv, e⟩ | ⟨x, hx, e⟩
  · rw [if_pos (by rw [e])]; exact D
  · rw [if_neg (by rw [e]; exact hx)]
    have e1 : (setF l i a b c d).1 = l := by rw [e]
    have e2 : (setF l i a b c d).2.1 = 0 := by rw [e]
    rw [e1, e2] at D ⊢
    rw [same_f (show 1002 ≤ 2999 by omega) (show l.length ≤ 1000 by omega), Option.bind_some, if_pos rfl, if_pos rfl]
    exact D
end Go.Proofs.Ythplifnhibahpaa.booksMay
