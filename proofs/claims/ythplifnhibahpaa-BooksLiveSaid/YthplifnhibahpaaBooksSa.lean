/- Books of layer 16: what a Set, and a Delete, leaves. -/
import Derived.Test.YthplifnhibahpaaBooksLa
namespace Go.Proofs.Ythplifnhibahpaa.La
open Go.RowKit Go.Proofs.YthplifnhibahpaaW.PrintWords Go.Proofs.YthplifnhibahpaaW.PrintLast Go.Proofs.YthplifnhibahpaaW.PrintMore Go.Proofs.Ythplifnhibahpaa.Q
set_option linter.unusedSimpArgs false
set_option linter.unusedVariables false
/-- A Set that told OK, or one that changed nothing. -/
theorem set_cases (l : List S43) (i a b c d : Int) : (thereF l i = true ∧ polOk a b c d = true ∧ (rd_T43 l i).f2 ≠ 1073741824 ∧ setF l i a b c d = (l.set i.toNat ⟨true, ⟨a, b, c, d⟩, (rd_T43 l i).f2 + 1⟩, (rd_T43 l i).f2 + 1, 0)) ∨ (∃ e, e ≠ 0 ∧ setF l i a b c d = (l, 0, e)) := by
  unfold setF
  cases h : thereF l i
  · exact Or.inr ⟨1, by omega, by simp⟩
  · cases hp : polOk a b c d
    · exact Or.inr ⟨1, by omega, by simp⟩
    · by_cases hv : (rd_T43 l i).f2 = 1073741824
      · exact Or.inr ⟨4, by omega, by simp [hv]⟩
      · exact Or.inl ⟨rfl, rfl, hv, by simp [hv]⟩
theorem del_cases (l : List S43) (i : Int) : (thereF l i = true ∧ (rd_T43 l i).f0 = true ∧ delF l i = (l.set i.toNat ⟨false, ⟨0, 0, 0, 0⟩, (rd_T43 l i).f2⟩, 0)) ∨ (∃ e, e ≠ 0 ∧ delF l i = (l, e)) := by
  unfold delF
  cases h : thereF l i
  · exact Or.inr ⟨1, by omega, by simp⟩
  · cases hb : (rd_T43 l i).f0
    · exact Or.inr ⟨5, by omega, by simp⟩
    · exact Or.inl ⟨rfl, rfl, by simp⟩
theorem put_may {l : List S43} {i : Nat} {x : S43} (h : mayF l = true) (hx : oddF x = false) : mayF (l.set i x) = true := by
  refine may_mk (by rw [List.length_set]; exact may_len h) (fun y hy => ?_)
  rcases List.mem_or_eq_of_mem_set hy with h1 | h1
  · exact may_odd h y h1
  · rw [h1]; exact hx
theorem set_odd {l : List S43} {i a b c d : Int} (h : thereF l i = true) (hp : polOk a b c d = true) (hv : (rd_T43 l i).f2 ≠ 1073741824) : oddF ⟨true, ⟨a, b, c, d⟩, (rd_T43 l i).f2 + 1⟩ = false := by
  have v := ver_is h
  unfold oddF
  simp only [hp, if_true, Bool.not_true, Bool.or_false, Bool.or_eq_false_iff, decide_eq_false_iff_not, beq_eq_false_iff_ne]
  omega
theorem del_odd {l : List S43} {i : Int} (h : thereF l i = true) : oddF ⟨false, ⟨0, 0, 0, 0⟩, (rd_T43 l i).f2⟩ = false := by
  have v := ver_is h
  unfold oddF
  simp only [Bool.false_eq_true, if_false, Bool.or_eq_false_iff, decide_eq_false_iff_not]
  refine ⟨by omega, by omega, by decide⟩
theorem set_may {l : List S43} (h : mayF l = true) (i a b c d : Int) : mayF (setF l i a b c d).1 = true := by
  rcases set_cases l i a b c d with ⟨ht, hp, hv, e⟩ | ⟨_, _, e⟩ <;> rw [e]
  · exact put_may h (set_odd ht hp hv)
  · exact h
theorem del_may {l : List S43} (h : mayF l = true) (i : Int) : mayF (delF l i).1 = true := by
  rcases del_cases l i with ⟨ht, hb, e⟩ | ⟨_, _, e⟩ <;> rw [e]
  · exact put_may h (del_odd ht)
  · exact h
theorem there_put {l : List S43} {i : Nat} {x : S43} (h : mayF l = true) (hx : mayF (l.set i x) = true) (j : Int) : thereF (l.set i x) j = thereF l j := by
  unfold thereF; rw [h, hx]
theorem get_put_other {l : List S43} {i j : Int} {x : S43} (h : mayF l = true) (hx : mayF (l.set i.toNat x) = true) (h0 : 0 ≤ i) (h1 : i < 8) (hj : j ≠ i) : getF (l.set i.toNat x) j = getF l j := by
  unfold getF
  rw [there_put h hx]
  cases ht : thereF l j
  · rfl
  · have q := there_is ht
    rw [rd_put l i j x h0 (by omega) q.2.1, if_neg hj]
theorem get_put_same {l : List S43} {i : Int} {x : S43} (ht : thereF l i = true) (hx : mayF (l.set i.toNat x) = true) : getF (l.set i.toNat x) i = if x.f0 = true then (x.f1.f0, x.f1.f1, x.f1.f2, x.f1.f3, x.f2, 0) else (0, 0, 0, 0, 0, 5) := by
  have q := there_is ht
  unfold getF
  rw [there_put q.1 hx, ht, if_pos rfl, rd_put l i i x q.2.1 (by omega) q.2.1, if_pos rfl]
theorem set_other {l : List S43} (h : mayF l = true) {i j : Int} (a b c d : Int) (hj : j ≠ i) : getF (setF l i a b c d).1 j = getF l j := by
  have hm := set_may h i a b c d
  rcases set_cases l i a b c d with ⟨ht, hp, hv, e⟩ | ⟨_, _, e⟩
  · rw [e] at hm ⊢
    have q := there_is ht
    exact get_put_other h hm q.2.1 q.2.2.1 hj
  · rw [e]
theorem del_other {l : List S43} (h : mayF l = true) {i j : Int} (hj : j ≠ i) : getF (delF l i).1 j = getF l j := by
  have hm := del_may h i
  rcases del_cases l i with ⟨ht, hb, e⟩ | ⟨_, _, e⟩
  · rw [e] at hm ⊢
    have q := there_is ht
    exact get_put_other h hm q.2.1 q.2.2.1 hj
  · rw [e]
theorem set_len (l : List S43) (i a b c d : Int) : (setF l i a b c d).1.length = l.length := by
  rcases set_cases l i a b c d with ⟨_, _, _, e⟩ | ⟨_, _, e⟩ <;> rw [e]; exact List.length_set
theorem del_len (l : List S43) (i : Int) : (delF l i).1.length = l.length := by
  rcases del_cases l i with ⟨_, _, e⟩ | ⟨_, _, e⟩ <;> rw [e]; exact List.length_set
end Go.Proofs.Ythplifnhibahpaa.La
