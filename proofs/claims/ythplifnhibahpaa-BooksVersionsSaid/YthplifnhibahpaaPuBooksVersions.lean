/- BooksVersions: proved of the printed functions. -/
import Derived.Test.YthplifnhibahpaaStBooksVersions
import Derived.Test.YthplifnhibahpaaBooksSa
namespace Go.Proofs.Ythplifnhibahpaa.booksVersions
open Go.RowKit Go.Proofs.YthplifnhibahpaaW.PrintWords Go.Proofs.YthplifnhibahpaaW.PrintLast Go.Proofs.YthplifnhibahpaaW.PrintMore Go.Proofs.Ythplifnhibahpaa.Q Go.Proofs.Ythplifnhibahpaa.La
set_option linter.unusedSimpArgs false
set_option linter.unusedVariables false
theorem new_may : mayF (List.replicate 8 z43) = true := by decide +kernel
theorem rd_new (i : Int) : rd_T43 (List.replicate 8 z43) i = z43 := by
  unfold rd_T43
  rw [List.getD_eq_getElem?_getD, List.getElem?_replicate]
  split <;> rfl
theorem rd_set {l : List Int} {i j x : Int} (h0 : 0 ≤ i) (h1 : i < (l.length : Int)) (hj : 0 ≤ j) : rd (l.set i.toNat x) j = if j = i then x else rd l j := by
  unfold rd
  rw [List.getD_eq_getElem?_getD, List.getElem?_set]
  by_cases e : j = i
  · subst e; rw [if_pos rfl, if_pos rfl, if_pos (by omega)]; rfl
  · rw [if_neg (show ¬ i.toNat = j.toNat by omega), if_neg e, List.getD_eq_getElem?_getD]
theorem loop (ids : List Int) (ps : List S25) (N : Nat) : ∀ (d j : Nat) (b : List S43) (last : List Int), ids.length - j = d → d + 200 < N → mayF b = true → last.length = 8 → (∀ x : Int, 0 ≤ x → x < 8 → rd last x ≤ (rd_T43 b x).f2) →
    sandglasslaw16_BooksVersions.l0 ids ps N b last j = some true := by
  induction N with
  | zero => intro d j b last _ hd; omega
  | succ N ih =>
    intro d j b last hd hN hb hl hv
    simp only [sandglasslaw16_BooksVersions.l0]
    by_cases hlt : j < ids.length
    · rw [if_pos hlt]
      obtain ⟨M, rfl⟩ : ∃ M, N = M + 3 := ⟨N - 3, by omega⟩
      rw [refCheck, Option.bind_some]
      generalize (rd_T25 ps (j : Int)) = p
      generalize rd ids (j : Int) = x
      cases hp : polOk p.f0 p.f1 p.f2 p.f3
      · rw [if_neg (by simp), del_f (show 12 ≤ M + 3 by omega), Option.bind_some]
        refine ih (d - 1) (j + 1) _ last (by omega) (by omega) (del_may hb x) hl (fun y y0 y1 => ?_)
        have := hv y y0 y1
        rcases del_cases b x with ⟨ht, hon, e⟩ | ⟨_, _, e⟩ <;> rw [e]
        · have q := there_is ht
          rw [rd_put b x y _ q.2.1 (by omega) y0]
          split
          · rename_i he; subst he; exact this
          · exact this
        · exact this
      · rw [if_pos (by simp), set_f (show 12 ≤ M + 3 by omega), Option.bind_some]
        rcases set_cases b x p.f0 p.f1 p.f2 p.f3 with ⟨ht, hp, hne, e⟩ | ⟨z, hz, e⟩
        · have q := there_is ht
          have hx := hv x q.2.1 q.2.2.1
          have hm := set_may hb x p.f0 p.f1 p.f2 p.f3
          rw [e] at hm ⊢
          dsimp only at hm ⊢
          rw [if_pos rfl, if_pos ⟨q.2.1, q.2.2.1, by omega⟩]
          refine ih (d - 1) (j + 1) _ _ (by omega) (by omega) hm (by rw [List.length_set]; exact hl) (fun y y0 y1 => ?_)
          rw [rd_put b x y _ q.2.1 (by omega) y0, rd_set q.2.1 (by omega) y0]
          split
          · exact Int.le_refl _
          · exact hv y y0 y1
        · rw [e]
          dsimp only
          rw [if_neg hz]
          exact ih (d - 1) (j + 1) _ _ (by omega) (by omega) hb hl hv
    · rw [if_neg hlt, may_f (show 12 ≤ N by omega), hb, Option.bind_some, if_pos rfl, live_at (show 40 ≤ N by omega)]
theorem pure : Pure := by
  intro ids ps _ _
  refine ⟨3000, ?_⟩
  unfold sandglasslaw16_BooksVersions.f
  by_cases h : ids.length > 60 ∨ ps.length ≠ ids.length
  · rw [if_pos h, live_at (show 40 ≤ 3000 by omega)]
  · rw [if_neg h, new_f, Option.bind_some]
    refine loop ids ps 3000 (ids.length - 0) 0 _ _ rfl (by omega) new_may rfl (fun x x0 x1 => ?_)
    rw [rd_new]
    have : ([0, 0, 0, 0, 0, 0, 0, 0] : List Int) = List.replicate 8 0 := rfl
    unfold rd
    rw [this, List.getD_eq_getElem?_getD, List.getElem?_replicate]
    split <;> exact Int.le_refl _
end Go.Proofs.Ythplifnhibahpaa.booksVersions
