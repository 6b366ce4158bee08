/- ExactMay: proved of the printed functions. -/
import Derived.Test.YtempbjcmhillgaaStExactMay
import Derived.Test.YtempbjcmhillgaaExactTa
namespace Go.Proofs.Ytempbjcmhillgaa.exactMay
open Go.RowKit Go.Proofs.YtempbjcmhillgaaW.PrintWords Go.Proofs.YtempbjcmhillgaaW.PrintLast Go.Proofs.YtempbjcmhillgaaW.PrintMore Go.Proofs.Ytempbjcmhillgaa.Q Go.Proofs.Ytempbjcmhillgaa.La
set_option linter.unusedSimpArgs false
set_option linter.unusedVariables false
/-- What is checked of the cell that an asking leaves, but for what Retry says. -/
theorem rest {k l w b u x ry : Int} {al : Bool} {q : List S50} (hm : mayF k l w b u 0 [] q = true) (hq : ∀ z ∈ q, u - w < z.f0) (hu : u ≤ 549755813888) (hlen : q.length ≤ 100)
    (h3 : ∀ R, sandglasslaw13_ExactMay.j3 2997 x false k l w b u 0 [] q al (l - cnt q) ry R = some true) :
    sandglasslaw13_ExactMay.j1 2999 x false k l w b u 0 [] q al (l - cnt q) ry (waitU w 0 (cnt q) u q - u) = some true := by
  obtain ⟨hk, l0, l1, w0, w1, a0, a1, hv, hs, ho, hc⟩ := may_is hm
  have hmem := okL_mem ho
  have h1 : ∀ z ∈ q, 1 ≤ z.f1 := fun z hz => (hmem z hz).2.2.1
  have hc0 := cnt_nonneg h1
  have hid : since (u - w) q = q := since_id hq
  have J2 : sandglasslaw13_ExactMay.j2 2998 x k l w b u 0 [] q al (l - cnt q) ry (waitU w 0 (cnt q) u q - u) = some true := by
    have hEnd : ends k l w b u 0 [] q = waitU w 0 (cnt q) u q := by unfold ends; rw [if_pos hm]
    by_cases hq0 : q = []
    · subst hq0
      have tu : timeF u = true := time_is.2 (by omega)
      simp only [show (2998 : Nat) = 2997 + 1 from rfl, sandglasslaw13_ExactMay.j2, waitU, cnt, Int.sub_self, Int.add_zero, wr (show -9223372036854775808 ≤ u by omega) (show u < 9223372036854775808 by omega), total_f (show 2200 ≤ 2997 by omega) k l w b u 0 [] [] u (by simp), Option.bind_some, hm, tu, Bool.and_self, if_true, since_nil, ends_f (show 2200 ≤ 2997 by omega) k l w b u 0 [] [] (by simp)]
      have hE2 : ends k l w b u 0 [] [] = u := by rw [hEnd]; rfl
      rw [if_neg (by omega), hE2]
      have := h3 0
      simpa [cnt] using this
    · obtain ⟨y, hy, he, hx⟩ := waitU_end (w := w) (u := u) ho hq0
      have qy := hmem y hy
      have ly := hq y hy
      have hmx := mx_le (-1) (u - w)
      have m1 : mx (y.f0 + w) u = y.f0 + w := by unfold mx; split <;> omega
      have m2 : mx (y.f0 + w - 1) u = y.f0 + w - 1 := by unfold mx; split <;> omega
      have t1 : timeF (y.f0 + w) = true := time_is.2 (by omega)
      have t2 : timeF (y.f0 + w - 1) = true := time_is.2 (by omega)
      rw [he] at hEnd ⊢
      have c1 : cnt (since (mx (y.f0 + w) u - w) q) = 0 := by
        rw [m1, since_none (fun z hz => by have := hx z hz; omega)]; rfl
      have c2 : cnt (since (mx (y.f0 + w - 1) u - w) q) ≠ 0 := by
        rw [m2]
        have hs1 := okL_since (c := y.f0 + w - 1 - w) ho
        have hin : y ∈ since (y.f0 + w - 1 - w) q := since_mem hy (by omega)
        have := cnt_mem (fun z hz => (okL_mem hs1.1 z hz).2.2.1) hin
        omega
      have e1 : u + (y.f0 + w - u) = y.f0 + w := by omega
      simp only [show (2998 : Nat) = 2997 + 1 from rfl, sandglasslaw13_ExactMay.j2, e1, wr (show -9223372036854775808 ≤ y.f0 + w by omega) (show y.f0 + w < 9223372036854775808 by omega), wr (show -9223372036854775808 ≤ y.f0 + w - 1 by omega) (show y.f0 + w - 1 < 9223372036854775808 by omega), total_f (show 2200 ≤ 2997 by omega) k l w b u 0 [] q _ (by omega), Option.bind_some, hm, t1, t2, Bool.and_self, if_true, ends_f (show 2200 ≤ 2997 by omega) k l w b u 0 [] q (by omega), hEnd]
      rw [if_pos c1, if_pos (by omega), if_neg c2]
      have := h3 (y.f0 + w - u)
      simpa using this
  simp only [show (2999 : Nat) = 2998 + 1 from rfl, sandglasslaw13_ExactMay.j1, Bool.false_eq_true, if_false]
  by_cases hr : l - cnt q > 0
  · have tu : timeF u = true := time_is.2 (by omega)
    have mu : mx u u = u := mx_self u
    have eA := askF_R l w u q u (l - cnt q)
    rw [mu, hid, askR_pos (by omega)] at eA
    simp only [if_pos hr, ask_f (show 2200 ≤ 2998 by omega) k l w b u 0 [] q u _ (by omega), Option.bind_some, ask_is hm tu ((weigh_is (t := l - cnt q)).2 (by omega)), eA, if_true]
    exact J2
  · rw [if_neg hr]
    exact J2
theorem pure : Pure := by
  intro k l w b a v s h t x _ _ _ _ _ _ _ _ wt wx
  refine ⟨3000, ?_⟩
  have T : ∀ x0 x1 x2 x3 y0 y1 y2 y3 z0 z1, sandglasslaw13_ExactMay.j0 3000 x0 x1 true x2 x3 y0 y1 y2 y3 z0 z1 = some true := by
    intros
    simp only [show (3000 : Nat) = 2999 + 1 from rfl, sandglasslaw13_ExactMay.j0, if_true, live_at (show 40 ≤ 2999 by omega), Option.bind_some]
  unfold sandglasslaw13_ExactMay.f
  rw [few_f]
  simp only [Option.bind_some, T, weigh_r]
  cases hf : (decide (s.length ≤ 40) && decide (h.length ≤ 40))
  · simp
  simp only [Bool.and_eq_true, decide_eq_true_eq] at hf
  simp only [if_true, may_r (show 2100 ≤ 3000 by omega) k l w b a v s h (by omega), Option.bind_some]
  cases hm : mayF k l w b a v s h
  · simp
  simp only [if_true]
  by_cases h1 : t < 0
  · rw [if_pos h1]
  rw [if_neg h1]
  by_cases h2 : t > 549755813888
  · rw [if_pos h2]
  rw [if_neg h2]
  by_cases h3 : a > 549755813888
  · rw [if_pos h3]
  rw [if_neg h3]
  cases hx : weighF x
  · exact T ..
  have hx' := weigh_is.1 hx
  have ht : timeF t = true := time_is.2 (by omega)
  obtain ⟨hk, l0, l1, w0, w1, a0, a1, hv, hs, ho, hc⟩ := may_is hm
  have hmx := mx_le (-1) (a - w)
  have hmu := mx_le t a
  have hr := okL_since (c := mx t a - w) ho
  have hrl := since_len (mx t a - w) h
  have eA : askF l w a h t x = askR l w (mx t a) (since (mx t a - w) h) x := askF_R ..
  have hu : ∃ u, mx t a = u := ⟨_, rfl⟩
  obtain ⟨u, hu⟩ := hu
  have hcr := since_cnt (c := mx t a - w) ho
  rw [hu] at hmu hr hrl eA hcr
  generalize since (u - w) h = r at hr hrl eA hcr
  have hmr := okL_mem hr.1
  have hor : okL l u (mx (-1) (u - w)) r = true := okL_up (okL_low hr.1 (fun z hz => by have := hmr z hz; have := hr.2 z hz; unfold mx; split <;> omega)) (fun z hz => by have := hmr z hz; omega)
  have hr1 : ∀ z ∈ r, 1 ≤ z.f1 := fun z hz => (hmr z hz).2.2.1
  have hc0 := cnt_nonneg hr1
  have tu : timeF u = true := time_is.2 (by omega)
  -- what is looked at of the cell q that is left
  have main : ∀ (q : List S50) (al : Bool) (ry : Int), askF l w a h t x = (u, 0, [], q, al, l - cnt q, ry, waitU w 0 (cnt q) u q - u) → mayF k l w b u 0 [] q = true → (∀ z ∈ q, u - w < z.f0) → q.length ≤ 100 →
      (∀ R, sandglasslaw13_ExactMay.j3 2997 x false k l w b u 0 [] q al (l - cnt q) ry R = some true) →
      sandglasslaw13_ExactMay.j0 3000 t x (!true) k l w b a v s h = some true := by
    intro q al ry e hm2 hq hl h3
    have qq := may_is hm2
    have hcq := qq.2.2.2.2.2.2.2.2.2.2
    have hcn := cnt_nonneg (fun z hz => (okL_mem qq.2.2.2.2.2.2.2.2.2.1 z hz).2.2.1)
    have J := rest hm2 hq (by omega) hl h3
    have hid : since (u - w) q = q := since_id hq
    simp only [show (3000 : Nat) = 2999 + 1 from rfl, sandglasslaw13_ExactMay.j0, Bool.not_true, Bool.false_eq_true, if_false, ask_f (show 2200 ≤ 2999 by omega) k l w b a v s h _ _ (by omega), Option.bind_some, ask_is hm ht hx, e, may_f (show 2100 ≤ 2999 by omega) k l w b u 0 [] q (by omega), hm2, if_true, hu, total_f (show 2200 ≤ 2999 by omega) k l w b u 0 [] q u (by omega), tu, Bool.and_self, mx_self, hid, wr (show -9223372036854775808 ≤ l - cnt q by omega) (show l - cnt q < 9223372036854775808 by omega), decide_eq_false (show ¬ l - cnt q < 0 by omega)]
    exact J
  by_cases c1 : cnt r + x ≤ l
  · have hoq : okL l u (mx (-1) (u - w)) (addL u x r) = true := okL_add hor (by unfold mx; split <;> omega) c1 hx'.1
    have hcq := cnt_add u x r
    have hlq := add_len u x r
    have hm2 : mayF k l w b u 0 [] (addL u x r) = true := may_to hm (by omega) (by omega) hoq (by omega)
    refine main _ _ _ (eA.trans (askR_pos c1)) hm2 (fun z hz => ?_) (by omega) (fun R => ?_)
    · rcases add_mem z hz with h3 | h3
      · omega
      · exact hr.2 z h3
    · simp only [show (2997 : Nat) = 2996 + 1 from rfl, sandglasslaw13_ExactMay.j3, Bool.false_eq_true, if_false, if_true, live_at (show 40 ≤ 2996 by omega), Option.bind_some]
  · have hm2 : mayF k l w b u 0 [] r = true := may_to hm (by omega) (by omega) hor (by omega)
    refine main _ _ _ (eA.trans (askR_neg c1)) hm2 hr.2 (by omega) (fun R => ?_)
    by_cases hxl : x > l
    · simp only [show (2997 : Nat) = 2996 + 1 from rfl, sandglasslaw13_ExactMay.j3, Bool.false_eq_true, if_false, if_true, if_pos hxl, live_at (show 40 ≤ 2996 by omega), Option.bind_some]
    · obtain ⟨y, hy, he, g1, g2⟩ := waitU_mid (w := w) (u := u) (most := l - x) hor (by omega) (by omega)
      have qy := hmr y hy
      have ly := hr.2 y hy
      have m1 : mx (y.f0 + w) u = y.f0 + w := by unfold mx; split <;> omega
      have m2 : mx (y.f0 + w - 1) u = y.f0 + w - 1 := by unfold mx; split <;> omega
      have t1 : timeF (y.f0 + w) = true := time_is.2 (by omega)
      have t2 : timeF (y.f0 + w - 1) = true := time_is.2 (by omega)
      have e1 : u + (y.f0 + w - u) = y.f0 + w := by omega
      have s1 : y.f0 + w - w = y.f0 := by omega
      have s2 : y.f0 + w - 1 - w = y.f0 - 1 := by omega
      have A1 := askF_R l w u r (y.f0 + w) x
      rw [m1, s1, askR_pos (by omega)] at A1
      have A2 := askF_R l w u r (y.f0 + w - 1) x
      rw [m2, s2, askR_neg (by omega)] at A2
      rw [he]
      simp only [show (2997 : Nat) = 2996 + 1 from rfl, sandglasslaw13_ExactMay.j3, Bool.false_eq_true, if_false, if_neg hxl, e1, wr (show -9223372036854775808 ≤ y.f0 + w by omega) (show y.f0 + w < 9223372036854775808 by omega), wr (show -9223372036854775808 ≤ y.f0 + w - 1 by omega) (show y.f0 + w - 1 < 9223372036854775808 by omega), ask_f (show 2200 ≤ 2996 by omega) k l w b u 0 [] r _ _ (by omega), Option.bind_some, ask_is hm2 t1 hx, ask_is hm2 t2 hx, A1, A2, if_true, if_pos (show y.f0 + w - u > 0 by omega), live_at (show 40 ≤ 2996 by omega)]
end Go.Proofs.Ytempbjcmhillgaa.exactMay
