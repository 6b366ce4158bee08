/- BooksLive: proved of the printed functions. -/
import Derived.Test.YthplifnhibahpaaStBooksLive
import Derived.Test.YthplifnhibahpaaBooksSa
namespace Go.Proofs.Ythplifnhibahpaa.booksLive
open Go.RowKit Go.Proofs.YthplifnhibahpaaW.PrintWords Go.Proofs.YthplifnhibahpaaW.PrintLast Go.Proofs.YthplifnhibahpaaW.PrintMore Go.Proofs.Ythplifnhibahpaa.Q Go.Proofs.Ythplifnhibahpaa.La
set_option linter.unusedSimpArgs false
set_option linter.unusedVariables false
theorem new_may : mayF (List.replicate 8 z43) = true := by decide +kernel
theorem rd_new (i : Int) : rd_T43 (List.replicate 8 z43) i = z43 := by
  unfold rd_T43
  rw [List.getD_eq_getElem?_getD, List.getElem?_replicate]
  split <;> rfl
theorem rdb_set {l : List Bool} {i j : Int} {x : Bool} (h0 : 0 ≤ i) (h1 : i < (l.length : Int)) (hj : 0 ≤ j) : rdb (l.set i.toNat x) j = if j = i then x else rdb l j := by
  unfold rdb
  rw [List.getD_eq_getElem?_getD, List.getElem?_set]
  by_cases e : j = i
  · subst e; rw [if_pos rfl, if_pos rfl, if_pos (by omega)]; rfl
  · rw [if_neg (show ¬ i.toNat = j.toNat by omega), if_neg e, List.getD_eq_getElem?_getD]
theorem want_live (b : List S43) (on : List Bool) (h8 : b.length = 8) (hv : ∀ x : Int, 0 ≤ x → x < 8 → rdb on x = (rd_T43 b x).f0) : ∀ n, n ≤ 8 → wantN on n ++ liveL (b.drop n) (n : Int) = liveL b 0
  | 0, _ => by simp [wantN]
  | n + 1, hn => by
    rw [← want_live b on h8 hv n (by omega), rd_drop b n (by omega)]
    have e := hv (n : Int) (by omega) (by omega)
    simp only [wantN, liveL, e]
    split
    · simp
    · simp
theorem loop (ids : List Int) (ps : List S25) (N : Nat) : ∀ (d j : Nat) (b : List S43) (on : List Bool), ids.length - j = d → d + 1200 < N → mayF b = true → on.length = 8 → (∀ x : Int, 0 ≤ x → x < 8 → rdb on x = (rd_T43 b x).f0) →
    sandglasslaw16_BooksLive.l0 ids ps N b on j = some true := by
  induction N with
  | zero => intro d j b on _ hd; omega
  | succ N ih =>
    intro d j b on hd hN hb hl hv
    simp only [sandglasslaw16_BooksLive.l0]
    by_cases hlt : j < ids.length
    · rw [if_pos hlt]
      obtain ⟨M, rfl⟩ : ∃ M, N = M + 3 := ⟨N - 3, by omega⟩
      rw [refCheck, Option.bind_some]
      generalize (rd_T25 ps (j : Int)) = p
      generalize rd ids (j : Int) = x
      cases hp : polOk p.f0 p.f1 p.f2 p.f3
      · rw [if_neg (by simp), del_f (show 12 ≤ M + 3 by omega), Option.bind_some]
        rcases del_cases b x with ⟨ht, hon, e⟩ | ⟨z, hz, e⟩
        · have q := there_is ht
          have hm := del_may hb x
          rw [e] at hm ⊢
          dsimp only at hm ⊢
          rw [if_pos rfl, if_pos ⟨q.2.1, q.2.2.1, by rw [hv x q.2.1 q.2.2.1]; exact hon⟩]
          refine ih (d - 1) (j + 1) _ _ (by omega) (by omega) hm (by rw [List.length_set]; exact hl) (fun y y0 y1 => ?_)
          rw [rd_put b x y _ q.2.1 (by omega) y0, rdb_set q.2.1 (by omega) y0]
          split
          · rfl
          · exact hv y y0 y1
        · rw [e]
          dsimp only
          rw [if_neg hz]
          exact ih (d - 1) (j + 1) _ _ (by omega) (by omega) hb hl hv
      · rw [if_pos (by simp), set_f (show 12 ≤ M + 3 by omega), Option.bind_some]
        rcases set_cases b x p.f0 p.f1 p.f2 p.f3 with ⟨ht, hp, hne, e⟩ | ⟨z, hz, e⟩
        · have q := there_is ht
          have hm := set_may hb x p.f0 p.f1 p.f2 p.f3
          rw [e] at hm ⊢
          dsimp only at hm ⊢
          rw [if_pos rfl, if_pos ⟨q.2.1, q.2.2.1⟩]
          refine ih (d - 1) (j + 1) _ _ (by omega) (by omega) hm (by rw [List.length_set]; exact hl) (fun y y0 y1 => ?_)
          rw [rd_put b x y _ q.2.1 (by omega) y0, rdb_set q.2.1 (by omega) y0]
          split
          · rfl
          · exact hv y y0 y1
        · rw [e]
          dsimp only
          rw [if_neg hz]
          exact ih (d - 1) (j + 1) _ _ (by omega) (by omega) hb hl hv
    · have h8 := may_len hb
      have hw := want_live b on h8 hv 8 (Nat.le_refl _)
      rw [List.drop_eq_nil_of_le (by omega)] at hw
      simp only [liveL, List.append_nil] at hw
      have hll := liveL_len b 0
      rw [if_neg hlt, live_f (show 1002 ≤ N by omega) (show b.length ≤ 1000 by omega), Option.bind_some, hw, ints_f (show 1002 ≤ N by omega) (show (liveL b 0).length ≤ 1000 by omega), Option.bind_some, if_pos rfl, live_at (show 40 ≤ N by omega)]
theorem pure : Pure := by
  intro ids ps _ _
  refine ⟨3000, ?_⟩
  unfold sandglasslaw16_BooksLive.f
  by_cases h : ids.length > 60 ∨ ps.length ≠ ids.length
  · rw [if_pos h, live_at (show 40 ≤ 3000 by omega)]
  · rw [if_neg h, new_f, Option.bind_some]
    refine loop ids ps 3000 (ids.length - 0) 0 _ _ rfl (by omega) new_may rfl (fun x x0 x1 => ?_)
    rw [rd_new]
    have : ([false, false, false, false, false, false, false, false] : List Bool) = List.replicate 8 false := rfl
    unfold rdb
    rw [this, List.getD_eq_getElem?_getD, List.getElem?_replicate]
    split <;> rfl
end Go.Proofs.Ythplifnhibahpaa.booksLive
