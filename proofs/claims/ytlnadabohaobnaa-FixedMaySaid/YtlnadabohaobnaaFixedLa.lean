/- The functions of layer 11 (fixed), told in closed form. -/
import Derived.Test.YtlnadabohaobnaaQ12
import Derived.Test.YtlnadabohaobnaaQ13
import Derived.Test.YtlnadabohaobnaaQ18
import Derived.Test.YtlnadabohaobnaaQ19
import Derived.Test.YtlnadabohaobnaaQ22
import Derived.Test.YtlnadabohaobnaaQ21
import Derived.Test.YtlnadabohaobnaaQ4
namespace Go.Proofs.Ytlnadabohaobnaa.La
open Go.RowKit Go.Proofs.YtlnadabohaobnaaW.PrintWords Go.Proofs.YtlnadabohaobnaaW.PrintLast Go.Proofs.YtlnadabohaobnaaW.PrintMore Go.Proofs.Ytlnadabohaobnaa.Q

set_option linter.unusedSimpArgs false
set_option linter.unusedVariables false
theorem wr {x : Int} (h0 : -9223372036854775808 ≤ x) (h1 : x < 9223372036854775808) : wrap64 x = x := by unfold wrap64; omega
theorem mx_le (a b : Int) : a ≤ mx a b ∧ b ≤ mx a b ∧ (mx a b = a ∨ mx a b = b) := by unfold mx; split <;> omega

/-- The reference's look at a policy. -/
theorem refCheck (k : Nat) (a b c d : Int) : sandglassref09_Check.f (k + 3) a b c d = some (if polOk a b c d = true then 0 else 1) := by
  unfold sandglassref09_Check.f polOk withinB
  by_cases h1 : a < 1
  · rw [if_pos h1]; simp [sandglassref09_Check.j0, show ¬ 1 ≤ a by omega]
  rw [if_neg h1]
  by_cases h2 : a > 4
  · rw [if_pos h2]; simp [sandglassref09_Check.j0, show ¬ a ≤ 4 by omega]
  rw [if_neg h2]
  by_cases h3 : b < 1
  · rw [if_pos h3]; simp [sandglassref09_Check.j0, show ¬ 1 ≤ b by omega]
  rw [if_neg h3]
  by_cases h4 : b > 1048576
  · rw [if_pos h4]; simp [sandglassref09_Check.j0, show ¬ b ≤ 1048576 by omega]
  rw [if_neg h4]
  by_cases h5 : c < 1
  · rw [if_pos h5]; simp [sandglassref09_Check.j0, show ¬ 1 ≤ c by omega]
  rw [if_neg h5]
  have e : ∀ (p : Int) (q : Int), (¬ p < q) → decide (q ≤ p) = true := fun p q h => by simp; omega
  have e' : ∀ (p : Int) (q : Int), (¬ p > q) → decide (p ≤ q) = true := fun p q h => by simp; omega
  by_cases h6 : c > 1048576
  · simp [sandglassref09_Check.j0, h6, show ¬ c ≤ 1048576 by omega]
  have h6' : decide (c > 1048576) = false := by simp; omega
  rw [h6', e _ _ h1, e' _ _ h2, e _ _ h3, e' _ _ h4, e _ _ h5, e' _ _ h6]
  simp only [sandglassref09_Check.j0, Bool.false_eq_true, if_false, Bool.and_self, Bool.true_and]
  by_cases h7 : a = 4
  · subst h7
    simp only [if_true, sandglassref09_Check.j1, show ¬ ((4 : Int) = 3) by omega, if_false, exactB]
    by_cases h8 : b > 16
    · simp [h8, show ¬ b ≤ 16 by omega]
    · by_cases h9 : d = 0 <;> simp [h8, h9, show b ≤ 16 by omega]
  · rw [if_neg h7]
    simp only [sandglassref09_Check.j1, Bool.false_eq_true, if_false]
    by_cases h8 : a = 3
    · rw [if_pos h8, if_pos h8]
      unfold ringB withinB
      by_cases h9 : d < 1
      · simp [h9, show ¬ 1 ≤ d by omega, sandglassref09_Check.j2]
      · by_cases h10 : d > 16
        · simp [h9, h10, show ¬ d ≤ 16 by omega, sandglassref09_Check.j2]
        · by_cases h11 : Int.tmod c d = 0 <;> simp [h9, h10, h11, show 1 ≤ d by omega, show d ≤ 16 by omega, show ¬ d = 0 by omega, sandglassref09_Check.j2]
    · rw [if_neg h8, if_neg h8, if_neg h7]
      by_cases h9 : d = 0 <;> simp [h9]

def timeF (t : Int) : Bool := decide (0 ≤ t) && decide (t ≤ 1099511627776)
def weighF (w : Int) : Bool := decide (1 ≤ w) && decide (w ≤ 1048576)
theorem time_f (t : Int) : fixed_time.f t = some (timeF t) := by
  unfold fixed_time.f timeF; by_cases h : t ≥ 0 <;> simp [h, show (0 ≤ t) = (t ≥ 0) from rfl]
theorem time_r (t : Int) : sandglassref10_Time.f t = some (timeF t) := by
  unfold sandglassref10_Time.f timeF; by_cases h : t ≥ 0 <;> simp [h, show (0 ≤ t) = (t ≥ 0) from rfl]
theorem weigh_f (t : Int) : policy_Weighs.f t = some (weighF t) := by
  unfold policy_Weighs.f policy_within_int.f weighF; by_cases h : t ≥ 1 <;> simp [h, show (1 ≤ t) = (t ≥ 1) from rfl]
theorem weigh_r (t : Int) : sandglassref09_Weighs.f t = some (weighF t) := by
  unfold sandglassref09_Weighs.f weighF; by_cases h : t ≥ 1 <;> simp [h, show (1 ≤ t) = (t ≥ 1) from rfl]

/-- May a cell be? -/
def mayF (k l w b a v : Int) (s : List Int) (h : List S53) : Bool :=
  polOk k l w b && (decide (k = 2) && (timeF a && (decide (0 ≤ v) && (decide (v ≤ l) && (decide (s.length = 0) && decide (h.length = 0))))))
theorem may_f (k l w b a v : Int) (s : List Int) (h : List S53) : fixed_May.f k l w b a v s h = some (mayF k l w b a v s h) := by
  unfold fixed_May.f policy_Check.f mayF
  simp only [Option.bind_some, time_f]
  cases polOk k l w b
  · simp
  · by_cases h1 : k = 2 <;> cases h2 : timeF a <;> by_cases h3 : v ≥ 0 <;> by_cases h4 : v ≤ l <;> by_cases h5 : s.length = 0 <;> cases h <;> simp [h1, h2, h3, h4, h5, show (0 ≤ v) = (v ≥ 0) from rfl, show ((s.length : Int) = 0) = (s.length = 0) by simp] <;> omega
theorem may_r (n : Nat) (k l w b a v : Int) (s : List Int) (h : List S53) : sandglassref11_May.f (n + 3) k l w b a v s h = some (mayF k l w b a v s h) := by
  unfold sandglassref11_May.f mayF
  simp only [Option.bind_some, time_r, refCheck]
  cases polOk k l w b
  · simp
  · by_cases h1 : k = 2 <;> cases h2 : timeF a <;> by_cases h3 : v ≥ 0 <;> by_cases h4 : v ≤ l <;> by_cases h5 : s.length = 0 <;> cases h <;> simp [h1, h2, h3, h4, h5, show (0 ≤ v) = (v ≥ 0) from rfl, show ((s.length : Int) = 0) = (s.length = 0) by simp] <;> omega

theorem may_is {k l w b a v : Int} {s : List Int} {h : List S53} (hm : mayF k l w b a v s h = true) : k = 2 ∧ 1 ≤ l ∧ l ≤ 1048576 ∧ 1 ≤ w ∧ w ≤ 1048576 ∧ 0 ≤ a ∧ a ≤ 1099511627776 ∧ 0 ≤ v ∧ v ≤ l ∧ s = [] ∧ h = [] := by
  unfold mayF polOk withinB timeF at hm
  simp only [Bool.and_eq_true, decide_eq_true_eq] at hm
  obtain ⟨⟨⟨⟨_, hl⟩, hw⟩, _⟩, hk, ha, h0, h1, hs, hh⟩ := hm
  exact ⟨hk, hl.1, hl.2, hw.1, hw.2, ha.1, ha.2, h0, h1, List.length_eq_zero_iff.1 hs, List.length_eq_zero_iff.1 hh⟩
/-- What may be, with another tick and level. -/
theorem may_to {k l w b a v : Int} {s : List Int} {h : List S53} (hm : mayF k l w b a v s h = true) {a' v' : Int} (h0 : 0 ≤ a') (h1 : a' ≤ 1099511627776) (h2 : 0 ≤ v') (h3 : v' ≤ l) : mayF k l w b a' v' [] [] = true := by
  unfold mayF timeF at *
  simp only [Bool.and_eq_true, decide_eq_true_eq] at *
  obtain ⟨hp, hk, _⟩ := hm
  exact ⟨hp, hk, ⟨h0, h1⟩, h2, h3, rfl, rfl⟩

theorem of_f {k l w b t : Int} (hw : 1 ≤ w) (hw2 : w ≤ 1048576) (ht : 0 ≤ t) (ht2 : t ≤ 1099511627776) : fixed_of.f k l w b t = some (w * (t / w), w * (t / w) + w) := by
  unfold fixed_of.f
  rw [if_neg (by omega)]
  have h1 : Int.tmod t w = t % w := Int.tmod_eq_emod_of_nonneg ht
  have h2 := Int.emod_nonneg t (show w ≠ 0 by omega)
  have h3 := Int.emod_lt_of_pos t (show 0 < w by omega)
  have h4 := Int.emod_add_mul_ediv t w
  rw [h1, wr (by omega) (by omega), wr (by omega) (by omega)]
  have : t - t % w = w * (t / w) := by omega
  rw [this]

/-- What counts in a cell at a time that is not below its own. -/
def totF (w a v t : Int) : Int := if t / w = a / w then v else 0
def total (m : Bool) (w a v t : Int) : Int := if m && timeF t then totF w a v (mx t a) else 0
theorem quo_lt {t w : Int} (hw : 1 ≤ w) (ht : 0 ≤ t) : 0 ≤ t / w ∧ t / w ≤ t ∧ w * (t / w) ≤ t ∧ t < w * (t / w) + w := by
  have h2 := Int.emod_nonneg t (show w ≠ 0 by omega)
  have h3 := Int.emod_lt_of_pos t (show 0 < w by omega)
  have h4 := Int.emod_add_mul_ediv t w
  have h5 := Int.ediv_nonneg ht (show 0 ≤ w by omega)
  have h6 := Int.ediv_le_self w ht
  exact ⟨h5, h6, by omega, by omega⟩
theorem total_f (n : Nat) (k l w b a v : Int) (s : List Int) (h : List S53) (t : Int) : fixed_Total.f (n + 1) k l w b a v s h t = some (total (mayF k l w b a v s h) w a v t) := by
  unfold fixed_Total.f total
  rw [may_f, time_f]
  simp only [Option.bind_some, fixed_Total.j0]
  cases hm : mayF k l w b a v s h
  · simp
  cases ht : timeF t
  · simp
  obtain ⟨_, _, _, hw, hw2, ha, ha2, _⟩ := may_is hm
  have ht' : 0 ≤ t ∧ t ≤ 1099511627776 := by unfold timeF at ht; simpa using ht
  have hx := mx_le t a
  rw [of_f hw hw2 (by omega) (by omega), of_f hw hw2 ha ha2]
  simp only [if_true, Option.bind_some, Bool.and_self, totF]
  by_cases e : mx t a / w = a / w
  · simp [e]
  · have hne : ¬ (w * (mx t a / w) = w * (a / w)) := fun h => e (Int.eq_of_mul_eq_mul_left (by omega) h)
    simp [e, hne]
theorem total_r0 (n : Nat) (k l w b a v : Int) (s : List Int) (h : List S53) (t : Int) : sandglassref11_Total.f (n + 3) k l w b a v s h t = some (total (mayF k l w b a v s h) w a v t) := by
  unfold sandglassref11_Total.f total
  rw [may_r, time_r]
  simp only [Option.bind_some]
  cases hm : mayF k l w b a v s h
  · simp [sandglassref11_Total.j0]
  cases ht : timeF t
  · simp [sandglassref11_Total.j0]
  obtain ⟨_, _, _, hw, hw2, ha, ha2, _⟩ := may_is hm
  have ht' : 0 ≤ t ∧ t ≤ 1099511627776 := by unfold timeF at ht; simpa using ht
  have hq := quo_lt hw ha
  have hq2 := quo_lt hw ht'.1
  simp only [if_true, sandglassref11_Total.j0, sandglassref11_Total.j1, Bool.not_true, Bool.false_eq_true, if_false, Bool.and_self, totF]
  by_cases h1 : t < a
  · have : mx t a = a := by unfold mx; rw [if_pos h1]
    rw [if_pos h1, this, if_pos rfl]
  · have : mx t a = t := by unfold mx; rw [if_neg h1]
    rw [if_neg h1, this, if_neg (by omega), Int.tdiv_eq_ediv_of_nonneg ht'.1, Int.tdiv_eq_ediv_of_nonneg ha, wr (by omega) (by omega), wr (by omega) (by omega)]
    by_cases e : t / w = a / w <;> simp [e]

/-- What Ask tells and leaves: tick, level, sums, hits; let in, remaining, retry, reset. -/
def nextF (w t : Int) : Int := w * (t / w) + w - t
def askF (l w a v t x : Int) : Int × Int × List Int × List S53 × Bool × Int × Int × Int :=
  let n := totF w a v (mx t a)
  if n + x ≤ l then (mx t a, n + x, [], [], true, l - (n + x), 0, if n + x > 0 then nextF w (mx t a) else 0)
  else (mx t a, n, [], [], false, l - n, if x > l then 2199023255552 else nextF w (mx t a), if n > 0 then nextF w (mx t a) else 0)
def askV (k l w b a v : Int) (s : List Int) (h : List S53) (t x : Int) : Int × Int × List Int × List S53 × Bool × Int × Int × Int :=
  if mayF k l w b a v s h && timeF t && weighF x then askF l w a v t x else (a, v, s, h, false, 0, 0, 0)
theorem tot_bd {w a v t : Int} (h : 0 ≤ v) : 0 ≤ totF w a v t ∧ totF w a v t ≤ v := by unfold totF; split <;> omega
theorem ask_f (n : Nat) (k l w b a v : Int) (s : List Int) (h : List S53) (t x : Int) : fixed_Ask.f (n + 3) k l w b a v s h t x = some (askV k l w b a v s h t x) := by
  unfold fixed_Ask.f askV
  rw [may_f, time_f, weigh_f]
  simp only [Option.bind_some]
  cases hm : mayF k l w b a v s h
  · simp [fixed_Ask.j0]
  cases ht : timeF t
  · simp [fixed_Ask.j0]
  cases hx : weighF x
  · simp [fixed_Ask.j0]
  obtain ⟨_, hl, hl2, hw, hw2, ha, ha2, hv, hv2, rfl, rfl⟩ := may_is hm
  have ht' : 0 ≤ t ∧ t ≤ 1099511627776 := by unfold timeF at ht; simpa using ht
  have hx' : 1 ≤ x ∧ x ≤ 1048576 := by unfold weighF at hx; simpa using hx
  have hmx := mx_le t a
  have hq := quo_lt hw (show 0 ≤ mx t a by omega)
  simp only [if_true, fixed_Ask.j0, fixed_Ask.j1, Bool.not_true, Bool.false_eq_true, if_false, Bool.and_self, total_f, hm, total, show timeF (mx t a) = true by unfold timeF; simp; omega, Option.bind_some, of_f hw hw2 (show 0 ≤ mx t a by omega) (show mx t a ≤ 1099511627776 by omega), askF]
  have e : mx (mx t a) a = mx t a := by unfold mx; split <;> (try split) <;> omega
  rw [e]
  have hb := tot_bd (w := w) (a := a) (t := mx t a) hv
  generalize totF w a v (mx t a) = n at hb
  unfold nextF
  generalize w * (mx t a / w) = q at hq
  rw [wr (show -9223372036854775808 ≤ n + x by omega) (by omega)]
  by_cases h1 : n + x ≤ l
  · rw [if_pos h1, if_pos h1, if_pos (show n + x > 0 by omega), if_pos (show n + x > 0 by omega), wr (by omega) (by omega), wr (by omega) (by omega)]
  · rw [if_neg h1, if_neg h1]
    rw [wr (show -9223372036854775808 ≤ l - n by omega) (by omega), wr (show -9223372036854775808 ≤ q + w - mx t a by omega) (by omega)]
    by_cases h2 : x > l <;> by_cases h3 : n > 0 <;> simp [h2, h3]

def ends (k l w b a v : Int) (s : List Int) (h : List S53) : Int := if mayF k l w b a v s h then (if v = 0 then a else w * (a / w) + w) else 0
theorem ends_f (k l w b a v : Int) (s : List Int) (h : List S53) : fixed_Ends.f k l w b a v s h = some (ends k l w b a v s h) := by
  unfold fixed_Ends.f ends
  rw [may_f]
  cases hm : mayF k l w b a v s h
  · simp
  obtain ⟨_, _, _, hw, hw2, ha, ha2, _⟩ := may_is hm
  rw [of_f hw hw2 ha ha2]
  by_cases h1 : v = 0 <;> simp [h1]
theorem ends_r (n : Nat) (k l w b a v : Int) (s : List Int) (h : List S53) : sandglassref11_Ends.f (n + 3) k l w b a v s h = some (ends k l w b a v s h) := by
  unfold sandglassref11_Ends.f ends
  rw [may_r]
  cases hm : mayF k l w b a v s h
  · simp
  obtain ⟨_, _, _, hw, hw2, ha, ha2, _⟩ := may_is hm
  have hq := quo_lt hw ha
  have hm2 : w * (a / w + 1) = w * (a / w) + w := by rw [Int.mul_add, Int.mul_one]
  rw [if_neg (show ¬ w = 0 by omega), Int.tdiv_eq_ediv_of_nonneg ha, wr (x := a / w) (by omega) (by omega), wr (x := a / w + 1) (by omega) (by omega), hm2, wr (by omega) (by omega)]
  by_cases h1 : v = 0 <;> simp [h1]

/-- A cell is the same as itself. -/
theorem same_l1 (n : Nat) (c1 c2 d1 d2 : Int) (s s' : List Int) (h : List S53) (d : Nat) : ∀ (i : Int), 0 ≤ i → (h.length : Int) - i ≤ d → h.length ≤ 40 → d < n → sandglassref10_Same.l1 n i c1 c2 s h d1 d2 s' h = some true := by
  induction n generalizing d with
  | zero => intro i _ _ _ hd; omega
  | succ n ih =>
    intro i h0 h1 h2 hd
    simp only [sandglassref10_Same.l1]
    by_cases h3 : i < (h.length : Int)
    · rw [if_pos h3, if_pos h0, if_pos h3]
      simp only [BEq.rfl, Bool.not_true, Bool.or_self, Bool.false_eq_true, if_false]
      rw [wr (by omega) (by omega)]
      exact ih (d - 1) (i + 1) (by omega) (by omega) h2 (by omega)
    · rw [if_neg h3]
theorem same_l0 (n : Nat) (c1 c2 d1 d2 : Int) (s : List Int) (h : List S53) (d : Nat) : ∀ (i : Int), 0 ≤ i → (s.length : Int) - i ≤ d → s.length ≤ 40 → h.length ≤ 40 → d + 42 < n → sandglassref10_Same.l0 n i c1 c2 s h d1 d2 s h = some true := by
  induction n generalizing d with
  | zero => intro i _ _ _ _ hd; omega
  | succ n ih =>
    intro i h0 h1 h2 h2' hd
    simp only [sandglassref10_Same.l0]
    by_cases h3 : i < (s.length : Int)
    · rw [if_pos h3, if_pos h0, if_pos h3, if_pos trivial, wr (by omega) (by omega)]
      exact ih (d - 1) (i + 1) (by omega) (by omega) h2 h2' (by omega)
    · rw [if_neg h3]
      exact same_l1 n c1 c2 d1 d2 s s h 40 0 (by omega) (by omega) h2' (by omega)
theorem same_refl (n : Nat) (a v : Int) (s : List Int) (h : List S53) (hs : s.length ≤ 40) (hh : h.length ≤ 40) : sandglassref10_Same.f (n + 100) a v s h a v s h = some true := by
  unfold sandglassref10_Same.f
  rw [if_pos rfl, if_pos rfl, if_pos rfl, show n + 100 = (n + 99) + 1 by omega]
  simp only [sandglassref10_Same.j0, bne_self_eq_false, Bool.false_eq_true, if_false]
  exact same_l0 _ _ _ _ _ _ _ 40 0 (by omega) (by omega) hs hh (by omega)
theorem few_f (a v : Int) (s : List Int) (h : List S53) : sandglassref10_Few.f a v s h = some (decide (s.length ≤ 40) && decide (h.length ≤ 40)) := by
  unfold sandglassref10_Few.f
  by_cases h1 : (s.length : Int) ≤ 40
  · have : s.length ≤ 40 := by omega
    rw [if_pos h1]; simp [this]; omega
  · have : ¬ s.length ≤ 40 := by omega
    rw [if_neg h1]; simp [this]
/-- The same, at any number of rounds that is enough. -/
theorem may_r' {n : Nat} (hn : 3 ≤ n) (k l w b a v : Int) (s : List Int) (h : List S53) : sandglassref11_May.f n k l w b a v s h = some (mayF k l w b a v s h) := by
  obtain ⟨m, rfl⟩ : ∃ m, n = m + 3 := ⟨n - 3, by omega⟩
  exact may_r ..
theorem check_r' {n : Nat} (hn : 3 ≤ n) (a b c d : Int) : sandglassref09_Check.f n a b c d = some (if polOk a b c d = true then 0 else 1) := by
  obtain ⟨m, rfl⟩ : ∃ m, n = m + 3 := ⟨n - 3, by omega⟩
  exact refCheck ..
theorem total_r' {n : Nat} (hn : 3 ≤ n) (k l w b a v : Int) (s : List Int) (h : List S53) (t : Int) : sandglassref11_Total.f n k l w b a v s h t = some (total (mayF k l w b a v s h) w a v t) := by
  obtain ⟨m, rfl⟩ : ∃ m, n = m + 3 := ⟨n - 3, by omega⟩
  exact total_r0 ..
theorem ask_f' {n : Nat} (hn : 3 ≤ n) (k l w b a v : Int) (s : List Int) (h : List S53) (t x : Int) : fixed_Ask.f n k l w b a v s h t x = some (askV k l w b a v s h t x) := by
  obtain ⟨m, rfl⟩ : ∃ m, n = m + 3 := ⟨n - 3, by omega⟩
  exact ask_f ..
theorem total_f' {n : Nat} (hn : 1 ≤ n) (k l w b a v : Int) (s : List Int) (h : List S53) (t : Int) : fixed_Total.f n k l w b a v s h t = some (total (mayF k l w b a v s h) w a v t) := by
  obtain ⟨m, rfl⟩ : ∃ m, n = m + 1 := ⟨n - 1, by omega⟩
  exact total_f ..
theorem ends_r' {n : Nat} (hn : 3 ≤ n) (k l w b a v : Int) (s : List Int) (h : List S53) : sandglassref11_Ends.f n k l w b a v s h = some (ends k l w b a v s h) := by
  obtain ⟨m, rfl⟩ : ∃ m, n = m + 3 := ⟨n - 3, by omega⟩
  exact ends_r ..
theorem same_refl' {n : Nat} (hn : 100 ≤ n) (a v : Int) (s : List Int) (h : List S53) (hs : s.length ≤ 40) (hh : h.length ≤ 40) : sandglassref10_Same.f n a v s h a v s h = some true := by
  obtain ⟨m, rfl⟩ : ∃ m, n = m + 100 := ⟨n - 100, by omega⟩
  exact same_refl _ _ _ _ _ hs hh
/-- Of a cell that may be, at a time and of a weight that may be: what Ask tells. -/
theorem ask_is {k l w b a v : Int} {s : List Int} {h : List S53} (hm : mayF k l w b a v s h = true) {t x : Int} (ht : timeF t = true) (hx : weighF x = true) : askV k l w b a v s h t x = askF l w a v t x := by
  unfold askV; rw [hm, ht, hx]; rfl
theorem time_is {t : Int} : timeF t = true ↔ 0 ≤ t ∧ t ≤ 1099511627776 := by unfold timeF; simp
theorem weigh_is {t : Int} : weighF t = true ↔ 1 ≤ t ∧ t ≤ 1048576 := by unfold weighF; simp
end Go.Proofs.Ytlnadabohaobnaa.La
