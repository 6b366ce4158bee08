/- Layer 13: lists of hits: what a weight more does, and when nothing counts any more. -/
import Derived.Test.YtempbjcmhillgaaExactSa
namespace Go.Proofs.Ytempbjcmhillgaa.La
open Go.RowKit Go.Proofs.YtempbjcmhillgaaW.PrintWords Go.Proofs.YtempbjcmhillgaaW.PrintLast Go.Proofs.YtempbjcmhillgaaW.PrintMore Go.Proofs.Ytempbjcmhillgaa.Q
set_option linter.unusedSimpArgs false
set_option linter.unusedVariables false
theorem since_nil (c : Int) : since c [] = [] := rfl
theorem since_cons_le {c : Int} {x : S50} {t : List S50} (h : x.f0 ≤ c) : since c (x :: t) = since c t := by unfold since; rw [List.dropWhile_cons_of_pos (by simpa using h)]
theorem since_cons_gt {c : Int} {x : S50} {t : List S50} (h : c < x.f0) : since c (x :: t) = x :: t := by unfold since; rw [List.dropWhile_cons_of_neg (by simp; omega)]
theorem since_id {c : Int} {l : List S50} (h : ∀ x ∈ l, c < x.f0) : since c l = l := by
  cases l with
  | nil => rfl
  | cons x t => exact since_cons_gt (h x (by simp))
theorem since_none {c : Int} {l : List S50} (h : ∀ x ∈ l, x.f0 ≤ c) : since c l = [] := by
  induction l with
  | nil => rfl
  | cons x t ih => rw [since_cons_le (h x (by simp))]; exact ih (fun y hy => h y (by simp [hy]))
theorem since_mem {c : Int} {l : List S50} {y : S50} (hy : y ∈ l) (h : c < y.f0) : y ∈ since c l := by
  induction l with
  | nil => cases hy
  | cons x t ih =>
    by_cases hx : x.f0 ≤ c
    · rw [since_cons_le hx]
      rcases List.mem_cons.1 hy with rfl | hy
      · omega
      · exact ih hy
    · rw [since_cons_gt (by omega)]; exact hy
theorem cnt_nonneg {l : List S50} (h : ∀ x ∈ l, 1 ≤ x.f1) : 0 ≤ cnt l := by
  induction l with
  | nil => simp [cnt]
  | cons x t ih => have := h x (by simp); have := ih (fun y hy => h y (by simp [hy])); simp only [cnt]; omega
theorem cnt_mem {l : List S50} (h : ∀ x ∈ l, 1 ≤ x.f1) {y : S50} (hy : y ∈ l) : y.f1 ≤ cnt l := by
  induction l with
  | nil => cases hy
  | cons x t ih =>
    have h0 := cnt_nonneg (fun z hz => h z (by simp [hz]) : ∀ z ∈ t, 1 ≤ z.f1)
    have hx := h x (by simp)
    simp only [cnt]
    rcases List.mem_cons.1 hy with rfl | hy
    · omega
    · have := ih (fun z hz => h z (by simp [hz])) hy; omega
theorem cnt_len {l : List S50} (h : ∀ x ∈ l, 1 ≤ x.f1) : (l.length : Int) ≤ cnt l := by
  induction l with
  | nil => simp [cnt]
  | cons x t ih => have := h x (by simp); have := ih (fun y hy => h y (by simp [hy])); simp only [cnt, List.length_cons]; omega
theorem cnt_zero {l : List S50} (h : ∀ x ∈ l, 1 ≤ x.f1) (h0 : cnt l ≤ 0) : l = [] := by
  have := cnt_len h
  exact List.length_eq_zero_iff.1 (by omega)
theorem since_cnt {lim a last c : Int} {h : List S50} (ho : okL lim a last h = true) : cnt (since c h) ≤ cnt h := by
  induction h generalizing last with
  | nil => exact Int.le_refl _
  | cons x t ih =>
    have q := okL_cons.1 ho
    by_cases hx : x.f0 ≤ c
    · rw [since_cons_le hx]
      have := ih q.2.2.2.2
      simp only [cnt]; omega
    · rw [since_cons_gt (by omega)]; exact Int.le_refl _
/-- The tick of the last hit. -/
def lt (last : Int) : List S50 → Int
  | [] => last
  | h :: t => lt h.f0 t
theorem okL_append {lim a : Int} : ∀ {last : Int} {m n : List S50}, okL lim a last (m ++ n) = (okL lim a last m && okL lim a (lt last m) n) := by
  intro last m
  induction m generalizing last with
  | nil => intro n; simp [okL, lt]
  | cons x t ih => intro n; simp only [List.cons_append, okL, lt, ih, Bool.and_assoc]
theorem okL_add {lim u last x : Int} {r : List S50} (h : okL lim u last r = true) (hl : last < u) (hc : cnt r + x ≤ lim) (hx : 1 ≤ x) : okL lim u last (addL u x r) = true := by
  have hm := okL_mem h
  have h1 : ∀ z ∈ r, 1 ≤ z.f1 := fun z hz => (hm z hz).2.2.1
  have h0 := cnt_nonneg h1
  rcases snoc_cases r with rfl | ⟨m, y, rfl⟩
  · rw [addL_nil]
    exact okL_cons.2 ⟨hl, Int.le_refl _, hx, by simp [cnt] at hc; exact hc, rfl⟩
  · have hy := hm y (by simp)
    have hcm : cnt (m ++ [y]) = cnt m + y.f1 := by rw [cnt_append]; simp [cnt]
    have hm0 := cnt_nonneg (fun z hz => h1 z (by simp [hz]) : ∀ z ∈ m, 1 ≤ z.f1)
    rw [okL_append, Bool.and_eq_true] at h
    have hy2 := okL_cons.1 h.2
    rw [addL_snoc]
    split
    · rename_i he
      rw [okL_append, Bool.and_eq_true]
      exact ⟨h.1, okL_cons.2 ⟨by dsimp only; omega, Int.le_refl _, by dsimp only; omega, by dsimp only; omega, rfl⟩⟩
    · rename_i he
      rw [okL_append, Bool.and_eq_true]
      exact ⟨h.1, okL_cons.2 ⟨hy2.1, hy2.2.1, hy2.2.2.1, hy2.2.2.2.1, okL_cons.2 ⟨by dsimp only; omega, Int.le_refl _, hx, by dsimp only; omega, rfl⟩⟩⟩
theorem addL_twice (u x y : Int) (r : List S50) : addL u y (addL u x r) = addL u (x + y) r := by
  rcases snoc_cases r with rfl | ⟨m, z, rfl⟩
  · rw [addL_nil, addL_nil]
    have := addL_snoc u y [] ⟨u, x⟩
    simpa using this
  · rw [addL_snoc, addL_snoc]
    split
    · rename_i he
      rw [addL_snoc]; simp [Int.add_assoc]
    · rename_i he
      have := addL_snoc u y (m ++ [z]) ⟨u, x⟩
      simp at this
      simpa using this
theorem addL_ne (u x : Int) (r : List S50) : addL u x r ≠ [] := by
  rcases snoc_cases r with rfl | ⟨m, z, rfl⟩
  · rw [addL_nil]; simp
  · rw [addL_snoc]; split <;> simp
/-- What an asking answers of the hits that still count. -/
def askR (l w u : Int) (r : List S50) (x : Int) : Int × Int × List Int × List S50 × Bool × Int × Int × Int :=
  if cnt r + x ≤ l then (u, 0, [], addL u x r, true, l - cnt (addL u x r), 0, waitU w 0 (cnt (addL u x r)) u (addL u x r) - u)
  else (u, 0, [], r, false, l - cnt r, if x > l then 2199023255552 else waitU w (l - x) (cnt r) u r - u, waitU w 0 (cnt r) u r - u)
theorem askF_R (l w a : Int) (h : List S50) (t x : Int) : askF l w a h t x = askR l w (mx t a) (since (mx t a - w) h) x := rfl
theorem askR_pos {l w u x : Int} {r : List S50} (hc : cnt r + x ≤ l) : askR l w u r x = (u, 0, [], addL u x r, true, l - cnt (addL u x r), 0, waitU w 0 (cnt (addL u x r)) u (addL u x r) - u) := if_pos hc
theorem askR_neg {l w u x : Int} {r : List S50} (hc : ¬ cnt r + x ≤ l) : askR l w u r x = (u, 0, [], r, false, l - cnt r, if x > l then 2199023255552 else waitU w (l - x) (cnt r) u r - u, waitU w 0 (cnt r) u r - u) := if_neg hc
/-- When nothing counts any more. -/
theorem waitU_end {lim a w : Int} : ∀ {last u : Int} {h : List S50}, okL lim a last h = true → h ≠ [] → ∃ y ∈ h, waitU w 0 (cnt h) u h = y.f0 + w ∧ ∀ x ∈ h, x.f0 ≤ y.f0 := by
  intro last u h
  induction h generalizing last u with
  | nil => intro _ hn; exact absurd rfl hn
  | cons x t ih =>
    intro ho _
    have q := okL_cons.1 ho
    have hm := okL_mem q.2.2.2.2
    have h0 := cnt_nonneg (fun z hz => (hm z hz).2.2.1 : ∀ z ∈ t, 1 ≤ z.f1)
    rw [waitU, if_neg (show ¬ cnt (x :: t) ≤ 0 by simp only [cnt]; omega), show cnt (x :: t) - x.f1 = cnt t by simp only [cnt]; omega]
    by_cases ht : t = []
    · subst ht
      exact ⟨x, by simp, rfl, fun z hz => by simp at hz; rw [hz]; exact Int.le_refl _⟩
    · obtain ⟨y, hy, he, hx⟩ := ih (u := x.f0 + w) q.2.2.2.2 ht
      refine ⟨y, by simp [hy], he, fun z hz => ?_⟩
      rcases List.mem_cons.1 hz with rfl | hz
      · have := hm y hy; omega
      · exact hx z hz
/-- When so much fits. -/
theorem waitU_mid {lim a w most : Int} : ∀ {last u : Int} {h : List S50}, okL lim a last h = true → most < cnt h → 0 ≤ most → ∃ y ∈ h, waitU w most (cnt h) u h = y.f0 + w ∧ cnt (since y.f0 h) ≤ most ∧ most < cnt (since (y.f0 - 1) h) := by
  intro last u h
  induction h generalizing last u with
  | nil => intro _ hn h0; simp [cnt] at hn; omega
  | cons x t ih =>
    intro ho hc h0
    have q := okL_cons.1 ho
    have hm := okL_mem q.2.2.2.2
    have hc2 : most < x.f1 + cnt t := by simpa only [cnt] using hc
    rw [waitU, if_neg (show ¬ cnt (x :: t) ≤ most by omega), show cnt (x :: t) - x.f1 = cnt t by simp only [cnt]; omega]
    by_cases ht : cnt t ≤ most
    · refine ⟨x, by simp, ?_, ?_, ?_⟩
      · cases t with
        | nil => rfl
        | cons z t => simp only [waitU]; rw [if_pos ht]
      · rw [since_cons_le (Int.le_refl _), since_id (fun z hz => (hm z hz).1)]; exact ht
      · rw [since_cons_gt (by omega)]; exact hc
    · obtain ⟨y, hy, he, h1, h2⟩ := ih (u := x.f0 + w) q.2.2.2.2 (by omega) h0
      have := hm y hy
      exact ⟨y, by simp [hy], he, by rw [since_cons_le (by omega)]; exact h1, by rw [since_cons_le (by omega)]; exact h2⟩
end Go.Proofs.Ytempbjcmhillgaa.La
