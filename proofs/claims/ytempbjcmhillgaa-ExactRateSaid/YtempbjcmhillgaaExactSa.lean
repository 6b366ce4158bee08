/- The references of layer 13 that the statements name, told in closed form; live. -/
import Derived.Test.YtempbjcmhillgaaQ24
import Derived.Test.YtempbjcmhillgaaQ19
import Derived.Test.YtempbjcmhillgaaQ20
import Derived.Test.YtempbjcmhillgaaExactLa
namespace Go.Proofs.Ytempbjcmhillgaa.La
open Go.RowKit Go.Proofs.YtempbjcmhillgaaW.PrintWords Go.Proofs.YtempbjcmhillgaaW.PrintLast Go.Proofs.YtempbjcmhillgaaW.PrintMore Go.Proofs.Ytempbjcmhillgaa.Q
set_option linter.unusedSimpArgs false
set_option linter.unusedVariables false
theorem refCheck (k : Nat) (a b c d : Int) : sandglassref09_Check.f (k + 3) a b c d = some (if polOk a b c d = true then 0 else 1) := by
  unfold sandglassref09_Check.f polOk withinB
  by_cases h1 : a < 1
  · rw [if_pos h1]; simp [sandglassref09_Check.j0, show ¬ 1 ≤ a by omega]
  rw [if_neg h1]
  by_cases h2 : a > 4
  · rw [if_pos h2]; simp [sandglassref09_Check.j0, show ¬ a ≤ 4 by omega]
  rw [if_neg h2]
  by_cases h3 : b < 1
  · rw [if_pos h3]; simp [sandglassref09_Check.j0, show ¬ 1 ≤ b by omega]
  rw [if_neg h3]
  by_cases h4 : b > 1048576
  · rw [if_pos h4]; simp [sandglassref09_Check.j0, show ¬ b ≤ 1048576 by omega]
  rw [if_neg h4]
  by_cases h5 : c < 1
  · rw [if_pos h5]; simp [sandglassref09_Check.j0, show ¬ 1 ≤ c by omega]
  rw [if_neg h5]
  have e : ∀ (p : Int) (q : Int), (¬ p < q) → decide (q ≤ p) = true := fun p q h => by simp; omega
  have e' : ∀ (p : Int) (q : Int), (¬ p > q) → decide (p ≤ q) = true := fun p q h => by simp; omega
  by_cases h6 : c > 1048576
  · simp [sandglassref09_Check.j0, h6, show ¬ c ≤ 1048576 by omega]
  have h6' : decide (c > 1048576) = false := by simp; omega
  rw [h6', e _ _ h1, e' _ _ h2, e _ _ h3, e' _ _ h4, e _ _ h5, e' _ _ h6]
  simp only [sandglassref09_Check.j0, Bool.false_eq_true, if_false, Bool.and_self, Bool.true_and]
  by_cases h7 : a = 4
  · subst h7
    simp only [if_true, sandglassref09_Check.j1, show ¬ ((4 : Int) = 3) by omega, if_false, exactB]
    by_cases h8 : b > 16
    · simp [h8, show ¬ b ≤ 16 by omega]
    · by_cases h9 : d = 0 <;> simp [h8, h9, show b ≤ 16 by omega]
  · rw [if_neg h7]
    simp only [sandglassref09_Check.j1, Bool.false_eq_true, if_false]
    by_cases h8 : a = 3
    · rw [if_pos h8, if_pos h8]
      unfold ringB withinB
      by_cases h9 : d < 1
      · simp [h9, show ¬ 1 ≤ d by omega, sandglassref09_Check.j2]
      · by_cases h10 : d > 16
        · simp [h9, h10, show ¬ d ≤ 16 by omega, sandglassref09_Check.j2]
        · by_cases h11 : Int.tmod c d = 0 <;> simp [h9, h10, h11, show 1 ≤ d by omega, show d ≤ 16 by omega, show ¬ d = 0 by omega, sandglassref09_Check.j2]
    · rw [if_neg h8, if_neg h8, if_neg h7]
      by_cases h9 : d = 0 <;> simp [h9]
theorem time_r (t : Int) : sandglassref10_Time.f t = some (timeF t) := by
  unfold sandglassref10_Time.f timeF; by_cases h : t ≥ 0 <;> simp [h, show (0 ≤ t) = (t ≥ 0) from rfl]
theorem weigh_r (t : Int) : sandglassref09_Weighs.f t = some (weighF t) := by
  unfold sandglassref09_Weighs.f weighF; by_cases h : t ≥ 1 <;> simp [h, show (1 ≤ t) = (t ≥ 1) from rfl]
/-- A cell is the same as itself. -/
theorem same_l1 (n : Nat) (c1 c2 d1 d2 : Int) (s s' : List Int) (h : List S50) (d : Nat) : ∀ (i : Int), 0 ≤ i → (h.length : Int) - i ≤ d → h.length ≤ 100 → d < n → sandglassref10_Same.l1 n i c1 c2 s h d1 d2 s' h = some true := by
  induction n generalizing d with
  | zero => intro i _ _ _ hd; omega
  | succ n ih =>
    intro i h0 h1 h2 hd
    simp only [sandglassref10_Same.l1]
    by_cases h3 : i < (h.length : Int)
    · rw [if_pos h3, if_pos h0, if_pos h3]
      simp only [BEq.rfl, Bool.not_true, Bool.or_self, Bool.false_eq_true, if_false]
      rw [wr (by omega) (by omega)]
      exact ih (d - 1) (i + 1) (by omega) (by omega) h2 (by omega)
    · rw [if_neg h3]
theorem same_l0 (n : Nat) (c1 c2 d1 d2 : Int) (s : List Int) (h : List S50) (d : Nat) : ∀ (i : Int), 0 ≤ i → (s.length : Int) - i ≤ d → s.length ≤ 40 → h.length ≤ 100 → d + 102 < n → sandglassref10_Same.l0 n i c1 c2 s h d1 d2 s h = some true := by
  induction n generalizing d with
  | zero => intro i _ _ _ _ hd; omega
  | succ n ih =>
    intro i h0 h1 h2 h2' hd
    simp only [sandglassref10_Same.l0]
    by_cases h3 : i < (s.length : Int)
    · rw [if_pos h3, if_pos h0, if_pos h3, if_pos trivial, wr (by omega) (by omega)]
      exact ih (d - 1) (i + 1) (by omega) (by omega) h2 h2' (by omega)
    · rw [if_neg h3]
      exact same_l1 n c1 c2 d1 d2 s s h 100 0 (by omega) (by omega) h2' (by omega)
theorem same_refl (n : Nat) (a v : Int) (s : List Int) (h : List S50) (hs : s.length ≤ 40) (hh : h.length ≤ 100) : sandglassref10_Same.f (n + 200) a v s h a v s h = some true := by
  unfold sandglassref10_Same.f
  rw [if_pos rfl, if_pos rfl, if_pos rfl, show n + 200 = (n + 199) + 1 by omega]
  simp only [sandglassref10_Same.j0, bne_self_eq_false, Bool.false_eq_true, if_false]
  exact same_l0 _ _ _ _ _ _ _ 40 0 (by omega) (by omega) hs hh (by omega)
theorem few_f (a v : Int) (s : List Int) (h : List S50) : sandglassref10_Few.f a v s h = some (decide (s.length ≤ 40) && decide (h.length ≤ 40)) := by
  unfold sandglassref10_Few.f
  by_cases h1 : (s.length : Int) ≤ 40
  · have : s.length ≤ 40 := by omega
    rw [if_pos h1]; simp [this]; omega
  · have : ¬ s.length ≤ 40 := by omega
    rw [if_neg h1]; simp [this]
theorem same_refl' {n : Nat} (hn : 200 ≤ n) (a v : Int) (s : List Int) (h : List S50) (hs : s.length ≤ 40) (hh : h.length ≤ 100) : sandglassref10_Same.f n a v s h a v s h = some true := by
  obtain ⟨m, rfl⟩ : ∃ m, n = m + 200 := ⟨n - 200, by omega⟩
  exact same_refl _ _ _ _ _ hs hh
theorem live_ok : sandglasslaw13_live.f 40 = some true := by decide +kernel
theorem live_up (n : Nat) : sandglasslaw13_live.f (40 + n) = some true := by
  induction n with
  | zero => exact live_ok
  | succ n ih => exact sandglasslaw13_live.mono (40 + n) _ ih
theorem live_at {n : Nat} (h : 40 ≤ n) : sandglasslaw13_live.f n = some true := by
  have := live_up (n - 40)
  rwa [show 40 + (n - 40) = n by omega] at this
/-- What is behind, as the reference looks at it. -/
def lastAt (a w : Int) (L : List S50) (i : Nat) : Int := if i = 0 then mx (-1) (a - w) else (rd_T50 L ((i : Int) - 1)).f0
theorem mayr_l0 (L : List S50) (hL : L.length ≤ 1000) (k l w b a v : Int) (s : List Int) (hl : l ≤ 16) (hw0 : 0 ≤ w) (hw1 : w ≤ 1048576) (ha0 : 0 ≤ a) (ha1 : a ≤ 1099511627776) (N : Nat) : ∀ (d i : Nat) (n : Int), L.length - i = d → i ≤ L.length → 2 * d < N → 0 ≤ n → n ≤ 16 * i → mx (-1) (a - w) ≤ lastAt a w L i →
    sandglassref13_May.l0 N n (i : Int) k l w b a v s L = some (okL l a (lastAt a w L i) (L.drop i) && decide (n + cnt (L.drop i) ≤ l)) := by
  induction N using Nat.strongRecOn with
  | _ N ih =>
    intro d i n hd hi hN n0 n1 hla
    obtain ⟨M, rfl⟩ : ∃ M, N = M + 1 := ⟨N - 1, by omega⟩
    have hm := mx_le (-1) (a - w)
    simp only [sandglassref13_May.l0]
    by_cases hlt : (i : Int) < (L.length : Int)
    · obtain ⟨P, rfl⟩ : ∃ P, M = P + 1 := ⟨M - 1, by omega⟩
      rw [if_pos hlt, if_pos (by omega), rd_drop L i (by omega)]
      have hnext : lastAt a w L (i + 1) = (rd_T50 L (i : Int)).f0 := by
        unfold lastAt
        rw [if_neg (by omega), show ((i + 1 : Nat) : Int) - 1 = (i : Int) by omega]
      generalize hh : rd_T50 L (i : Int) = h at *
      generalize hlast : lastAt a w L i = last at *
      have F : ∀ x1 x2, sandglassref13_May.j2 (P + 1) n (i : Int) true k l w b a v s L x1 x2 = some false := by intros; simp [sandglassref13_May.j2]
      rw [wr (x := a - w) (by omega) (by omega)]
      by_cases c1 : h.f0 < 0
      · rw [if_pos c1, F]; simp [okL, show ¬ last < h.f0 by omega]
      rw [if_neg c1]
      by_cases c2 : h.f0 > a
      · rw [if_pos c2, F]; simp [okL, show ¬ h.f0 ≤ a by omega]
      rw [if_neg c2]
      by_cases c3 : h.f0 ≤ a - w
      · rw [if_pos c3, F]; simp [okL, show ¬ last < h.f0 by omega]
      rw [if_neg c3]
      have W : ∀ (hlo : last < h.f0), (if h.f1 < 1 then sandglassref13_May.j2 (P + 1) n (i : Int) true k l w b a v s L h.f0 h.f1 else sandglassref13_May.j2 (P + 1) n (i : Int) (decide (h.f1 > l)) k l w b a v s L h.f0 h.f1) = some (okL l a last (h :: L.drop (i + 1)) && decide (n + cnt (h :: L.drop (i + 1)) ≤ l)) := by
        intro hlo
        by_cases c4 : h.f1 < 1
        · rw [if_pos c4, F]; simp [okL, show ¬ 1 ≤ h.f1 by omega]
        rw [if_neg c4]
        by_cases c5 : h.f1 > l
        · rw [decide_eq_true c5, F]; simp [okL, show ¬ h.f1 ≤ l by omega]
        rw [decide_eq_false c5]
        simp only [sandglassref13_May.j2, Bool.false_eq_true, if_false]
        rw [wr (x := n + h.f1) (by omega) (by omega), wr (x := (i : Int) + 1) (by omega) (by omega), show (i : Int) + 1 = ((i + 1 : Nat) : Int) by omega, ih P (by omega) (d - 1) (i + 1) _ (by omega) (by omega) (by omega) (by omega) (by omega) (by omega), hnext]
        simp only [okL, cnt, decide_eq_true hlo, decide_eq_true (show h.f0 ≤ a by omega), decide_eq_true (show 1 ≤ h.f1 by omega), decide_eq_true (show h.f1 ≤ l by omega), Bool.true_and]
        exact congrArg (fun q => some (okL l a h.f0 (List.drop (i + 1) L) && q)) (decide_eq_decide.2 (by omega))
      by_cases hi0 : (i : Int) > 0
      · have hprev : (rd_T50 L ((i : Int) - 1)).f0 = last := by
          rw [← hlast]; unfold lastAt; rw [if_neg (by omega)]
        rw [if_pos hi0, wr (x := (i : Int) - 1) (by omega) (by omega), if_pos (by omega), if_pos (by omega), hprev]
        by_cases c6 : last ≥ h.f0
        · rw [if_pos c6, F]; simp [okL, show ¬ last < h.f0 by omega]
        · rw [if_neg c6]; exact W (by omega)
      · rw [if_neg hi0]
        have : last = mx (-1) (a - w) := by rw [← hlast]; unfold lastAt; rw [if_pos (by omega)]
        exact W (by omega)
    · rw [if_neg hlt, List.drop_eq_nil_of_le (by omega)]; simp [okL, cnt]
theorem may_r {n : Nat} (hn : 2100 ≤ n) (k l w b a v : Int) (s : List Int) (h : List S50) (hh : h.length ≤ 1000) : sandglassref13_May.f n k l w b a v s h = some (mayF k l w b a v s h) := by
  obtain ⟨n, rfl⟩ : ∃ m, n = m + 3 := ⟨n - 3, by omega⟩
  unfold sandglassref13_May.f mayF
  simp only [Option.bind_some, time_r, refCheck]
  cases hp : polOk k l w b
  · simp [sandglassref13_May.j0]
  · have q := pol_is hp
    by_cases h1 : k = 4
    · cases h2 : timeF a
      · simp [h1, sandglassref13_May.j0]
      · have ha := time_is.1 h2
        by_cases h3 : v = 0
        · by_cases h4 : s.length = 0
          · have e : ((s.length : Int) != 0) = false := by simp [h4]
            simp only [h1, h3, e, if_true, sandglassref13_May.j0, Bool.false_eq_true, if_false]
            have := mayr_l0 h hh 4 l w b a 0 s (q.2.2.2.2 h1) (by omega) (by omega) ha.1 ha.2 (n + 2) h.length 0 0 (by omega) (by omega) (by omega) (by omega) (by omega) (by unfold lastAt; rw [if_pos rfl]; omega)
            rw [show ((0 : Nat) : Int) = 0 from rfl] at this
            rw [this]; simp [h4, lastAt]
          · have e : ((s.length : Int) != 0) = true := by rw [bne_iff_ne]; omega
            simp [h1, h3, e, h4, sandglassref13_May.j0]
        · simp [h1, h3, sandglassref13_May.j0]
    · simp [h1, sandglassref13_May.j0]
theorem i64_is {v : Int} (h : (Lit.int .i64 v).wf = true) : -9223372036854775808 ≤ v ∧ v ≤ 9223372036854775807 := by
  simp [Lit.wf, IntKind.min, IntKind.max, IntKind.signed, IntKind.bits] at h
  omega
theorem ask_is {k l w b a v : Int} {s : List Int} {h : List S50} (hm : mayF k l w b a v s h = true) {t x : Int} (ht : timeF t = true) (hx : weighF x = true) : askV k l w b a v s h t x = askF l w a h t x := by
  unfold askV; rw [hm, ht, hx]; rfl
end Go.Proofs.Ytempbjcmhillgaa.La
