/- The functions of layer 16 (books), told in closed form. -/
import Derived.Test.YthplifnhibahpaaQ15
import Derived.Test.YthplifnhibahpaaQ16
import Derived.Test.YthplifnhibahpaaQ12
import Derived.Test.YthplifnhibahpaaQ25
import Derived.Test.YthplifnhibahpaaQ26
import Derived.Test.YthplifnhibahpaaQ20
import Derived.Test.YthplifnhibahpaaQ21
import Derived.Test.YthplifnhibahpaaQ22
import Derived.Test.YthplifnhibahpaaQ23
import Derived.Test.YthplifnhibahpaaQ17
import Derived.IntWalk
namespace Go.Proofs.Ythplifnhibahpaa.La
open Go.RowKit Go.Proofs.YthplifnhibahpaaW.PrintWords Go.Proofs.YthplifnhibahpaaW.PrintLast Go.Proofs.YthplifnhibahpaaW.PrintMore Go.Proofs.Ythplifnhibahpaa.Q
set_option linter.unusedSimpArgs false
set_option linter.unusedVariables false
theorem wr {x : Int} (h0 : -9223372036854775808 ≤ x) (h1 : x < 9223372036854775808) : wrap64 x = x := by unfold wrap64; omega
theorem refCheck (k : Nat) (a b c d : Int) : sandglassref09_Check.f (k + 3) a b c d = some (if polOk a b c d = true then 0 else 1) := by
  unfold sandglassref09_Check.f polOk withinB
  by_cases h1 : a < 1
  · rw [if_pos h1]; simp [sandglassref09_Check.j0, show ¬ 1 ≤ a by omega]
  rw [if_neg h1]
  by_cases h2 : a > 4
  · rw [if_pos h2]; simp [sandglassref09_Check.j0, show ¬ a ≤ 4 by omega]
  rw [if_neg h2]
  by_cases h3 : b < 1
  · rw [if_pos h3]; simp [sandglassref09_Check.j0, show ¬ 1 ≤ b by omega]
  rw [if_neg h3]
  by_cases h4 : b > 1048576
  · rw [if_pos h4]; simp [sandglassref09_Check.j0, show ¬ b ≤ 1048576 by omega]
  rw [if_neg h4]
  by_cases h5 : c < 1
  · rw [if_pos h5]; simp [sandglassref09_Check.j0, show ¬ 1 ≤ c by omega]
  rw [if_neg h5]
  have e : ∀ (p : Int) (q : Int), (¬ p < q) → decide (q ≤ p) = true := fun p q h => by simp; omega
  have e' : ∀ (p : Int) (q : Int), (¬ p > q) → decide (p ≤ q) = true := fun p q h => by simp; omega
  by_cases h6 : c > 1048576
  · simp [sandglassref09_Check.j0, h6, show ¬ c ≤ 1048576 by omega]
  have h6' : decide (c > 1048576) = false := by simp; omega
  rw [h6', e _ _ h1, e' _ _ h2, e _ _ h3, e' _ _ h4, e _ _ h5, e' _ _ h6]
  simp only [sandglassref09_Check.j0, Bool.false_eq_true, if_false, Bool.and_self, Bool.true_and]
  by_cases h7 : a = 4
  · subst h7
    simp only [if_true, sandglassref09_Check.j1, show ¬ ((4 : Int) = 3) by omega, if_false, exactB]
    by_cases h8 : b > 16
    · simp [h8, show ¬ b ≤ 16 by omega]
    · by_cases h9 : d = 0 <;> simp [h8, h9, show b ≤ 16 by omega]
  · rw [if_neg h7]
    simp only [sandglassref09_Check.j1, Bool.false_eq_true, if_false]
    by_cases h8 : a = 3
    · rw [if_pos h8, if_pos h8]
      unfold ringB withinB
      by_cases h9 : d < 1
      · simp [h9, show ¬ 1 ≤ d by omega, sandglassref09_Check.j2]
      · by_cases h10 : d > 16
        · simp [h9, h10, show ¬ d ≤ 16 by omega, sandglassref09_Check.j2]
        · by_cases h11 : Int.tmod c d = 0 <;> simp [h9, h10, h11, show 1 ≤ d by omega, show d ≤ 16 by omega, show ¬ d = 0 by omega, sandglassref09_Check.j2]
    · rw [if_neg h8, if_neg h8, if_neg h7]
      by_cases h9 : d = 0 <;> simp [h9]

theorem rd_drop (l : List S43) (i : Nat) (h : i < l.length) : l.drop i = rd_T43 l (i : Int) :: l.drop (i + 1) := by
  rw [List.drop_eq_getElem_cons h]
  congr 1
  unfold rd_T43
  rw [Int.toNat_natCast, List.getD_eq_getElem?_getD, List.getElem?_eq_getElem h]; rfl
theorem rd_mem (l : List S43) (i : Int) (h0 : 0 ≤ i) (h : i < (l.length : Int)) : rd_T43 l i ∈ l := by
  unfold rd_T43
  rw [List.getD_eq_getElem?_getD, List.getElem?_eq_getElem (show i.toNat < l.length by omega)]
  exact List.getElem_mem _
theorem rd_put (l : List S43) (i j : Int) (x : S43) (h0 : 0 ≤ i) (h : i < (l.length : Int)) (hj : 0 ≤ j) : rd_T43 (l.set i.toNat x) j = if j = i then x else rd_T43 l j := by
  unfold rd_T43
  rw [List.getD_eq_getElem?_getD, List.getElem?_set]
  by_cases e : j = i
  · subst e; rw [if_pos rfl, if_pos rfl, if_pos (by omega)]; rfl
  · rw [if_neg (show ¬ i.toNat = j.toNat by omega), if_neg e, List.getD_eq_getElem?_getD]
/-- May a book not be? -/
def oddF (x : S43) : Bool := decide (x.f2 < 0) || (decide (x.f2 > 1073741824) || (if x.f0 = true then (x.f2 == 0) || !polOk x.f1.f0 x.f1.f1 x.f1.f2 x.f1.f3 else !(x.f1.f0 == 0) || (!(x.f1.f1 == 0) || (!(x.f1.f2 == 0) || !(x.f1.f3 == 0)))))
theorem odd_f (k : Nat) (x : S43) : books_odd.f (k + 1) x.f0 x.f1.f0 x.f1.f1 x.f1.f2 x.f1.f3 x.f2 = some (oddF x) := by
  obtain ⟨b, ⟨p, q, r, s⟩, v⟩ := x
  unfold books_odd.f oddF
  dsimp only
  by_cases h1 : v < 0
  · simp [h1, books_odd.j0]
  · by_cases h2 : v > 1073741824
    · simp [h1, h2, books_odd.j0]
    · cases b
      · simp [h1, h2, books_odd.j0]
      · by_cases h3 : v = 0
        · simp [h3, books_odd.j0]
        · simp only [h1, h2, h3, books_odd.j0, if_false, decide_false, Bool.false_eq_true, if_true, policy_Check.f, Option.bind_some, Bool.false_or]
          cases polOk p q r s <;> simp [h3]
theorem idx_l0 (l : List S43) (hl : l.length ≤ 1000) (x : Int) (N : Nat) : ∀ (d i : Nat), l.length - i = d → i ≤ l.length → d + 1 < N → ∃ r, api_Book_31.l0 N l (l.length : Int) (i : Int) = some r ∧ decide (r ≥ 0) = (l.drop i).any oddF := by
  induction N with
  | zero => intro d i _ _ hd; omega
  | succ N ih =>
    intro d i hd hi hN
    simp only [api_Book_31.l0]
    by_cases hlt : (i : Int) < (l.length : Int)
    · rw [if_pos hlt, if_pos (by omega), if_pos hlt, rd_drop l i (by omega), List.any_cons]
      obtain ⟨M, rfl⟩ : ∃ M, N = M + 1 := ⟨N - 1, by omega⟩
      rw [odd_f, Option.bind_some]
      cases h : oddF (rd_T43 l (i : Int))
      · rw [if_neg (by simp), wr (x := (i : Int) + 1) (by omega) (by omega), show (i : Int) + 1 = ((i + 1 : Nat) : Int) by omega, Bool.false_or]
        exact ih (d - 1) (i + 1) (by omega) (by omega) (by omega)
      · rw [if_pos rfl]
        exact ⟨_, rfl, by simp⟩
    · rw [if_neg hlt, List.drop_eq_nil_of_le (by omega)]
      exact ⟨_, rfl, by simp⟩
/-- May books be? -/
def mayF (l : List S43) : Bool := decide (l.length = 8) && !l.any oddF
theorem may_f {n : Nat} (hn : 12 ≤ n) (l : List S43) : books_May.f n l = some (mayF l) := by
  unfold books_May.f api_Book_25.f api_Book_31.f mayF
  by_cases h : l.length = 8
  · rw [if_pos (by omega)]
    obtain ⟨r, hr, he⟩ := idx_l0 l (by omega) 0 n 8 0 (by omega) (by omega) (by omega)
    rw [show ((0 : Nat) : Int) = 0 from rfl] at hr
    rw [hr, Option.bind_some, Option.bind_some, he]
    simp [h]
  · rw [if_neg (by omega)]; simp [h]
theorem may_len {l : List S43} (h : mayF l = true) : l.length = 8 := by
  unfold mayF at h; simp only [Bool.and_eq_true, decide_eq_true_eq] at h; exact h.1
theorem may_odd {l : List S43} (h : mayF l = true) : ∀ x ∈ l, oddF x = false := by
  unfold mayF at h; simp only [Bool.and_eq_true, Bool.not_eq_true', List.any_eq_false] at h
  intro x hx; have := h.2 x hx; simpa using this
theorem may_mk {l : List S43} (h : l.length = 8) (ho : ∀ x ∈ l, oddF x = false) : mayF l = true := by
  unfold mayF; simp only [Bool.and_eq_true, decide_eq_true_eq, Bool.not_eq_true', List.any_eq_false]
  exact ⟨h, fun x hx => by rw [ho x hx]; simp⟩
/-- Are books such as may be, and is there a book of a number? -/
def thereF (l : List S43) (i : Int) : Bool := mayF l && (decide (0 ≤ i) && decide (i < 8))
theorem there_is {l : List S43} {i : Int} (h : thereF l i = true) : mayF l = true ∧ 0 ≤ i ∧ i < 8 ∧ l.length = 8 := by
  unfold thereF at h; simp only [Bool.and_eq_true, decide_eq_true_eq] at h; exact ⟨h.1, h.2.1, h.2.2, may_len h.1⟩
theorem there_f {n : Nat} (hn : 12 ≤ n) (l : List S43) (i : Int) : books_there.f n l i = some (thereF l i) := by
  unfold books_there.f thereF
  rw [may_f hn, Option.bind_some]
  cases h : mayF l
  · simp
  · have := may_len h
    by_cases h0 : i ≥ 0
    · simp [h0, this]
    · simp [h0]
def getF (l : List S43) (i : Int) : Int × Int × Int × Int × Int × Int :=
  if thereF l i = true then (if (rd_T43 l i).f0 = true then ((rd_T43 l i).f1.f0, (rd_T43 l i).f1.f1, (rd_T43 l i).f1.f2, (rd_T43 l i).f1.f3, (rd_T43 l i).f2, 0) else (0, 0, 0, 0, 0, 5)) else (0, 0, 0, 0, 0, 1)
theorem get_f {n : Nat} (hn : 12 ≤ n) (l : List S43) (i : Int) : books_Get.f n l i = some (getF l i) := by
  unfold books_Get.f getF
  rw [there_f hn, Option.bind_some]
  cases h : thereF l i
  · simp
  · have := there_is h
    simp only [if_true]
    rw [if_pos this.2.1, if_pos (by omega)]
    split <;> rfl
theorem clone_f {l : List S43} (h : l.length ≤ 1000) : api_Book_34.f l = some l := by
  unfold api_Book_34.f
  simp only [Option.bind_some, List.length_nil, List.nil_append]
  rw [if_pos (by omega)]
def setF (l : List S43) (i a b c d : Int) : List S43 × Int × Int :=
  if (thereF l i && polOk a b c d) = true then (if (rd_T43 l i).f2 = 1073741824 then (l, 0, 4) else (l.set i.toNat ⟨true, ⟨a, b, c, d⟩, (rd_T43 l i).f2 + 1⟩, (rd_T43 l i).f2 + 1, 0)) else (l, 0, 1)
theorem ver_is {l : List S43} {i : Int} (h : thereF l i = true) : 0 ≤ (rd_T43 l i).f2 ∧ (rd_T43 l i).f2 ≤ 1073741824 := by
  have q := there_is h
  have := may_odd q.1 _ (rd_mem l i q.2.1 (by omega))
  unfold oddF at this
  simp only [Bool.or_eq_false_iff, decide_eq_false_iff_not] at this
  omega
theorem set_f {n : Nat} (hn : 12 ≤ n) (l : List S43) (i a b c d : Int) : books_Set.f n l i a b c d = some (setF l i a b c d) := by
  unfold books_Set.f setF
  rw [there_f hn, Option.bind_some]
  cases h : thereF l i
  · simp
  · have q := there_is h
    have v := ver_is h
    simp only [if_true, policy_Check.f, Option.bind_some, Bool.true_and]
    cases hp : polOk a b c d
    · simp
    · simp only [if_true]
      rw [if_pos q.2.1, if_pos (by omega)]
      split
      · rfl
      · rw [clone_f (by omega), Option.bind_some, wr (by omega) (by omega)]
def delF (l : List S43) (i : Int) : List S43 × Int :=
  if thereF l i = true then (if (rd_T43 l i).f0 = true then (l.set i.toNat ⟨false, ⟨0, 0, 0, 0⟩, (rd_T43 l i).f2⟩, 0) else (l, 5)) else (l, 1)
theorem del_f {n : Nat} (hn : 12 ≤ n) (l : List S43) (i : Int) : books_Delete.f n l i = some (delF l i) := by
  unfold books_Delete.f delF
  rw [get_f hn, Option.bind_some]
  unfold getF
  cases h : thereF l i
  · simp
  · have q := there_is h
    simp only [if_true]
    cases hb : (rd_T43 l i).f0
    · simp
    · simp only [if_true]
      rw [if_pos q.2.1, if_pos (by omega), clone_f (by omega), Option.bind_some]
/-- Those that are on. -/
def liveL : List S43 → Int → List Int
  | [], _ => []
  | x :: t, i => if x.f0 = true then i :: liveL t (i + 1) else liveL t (i + 1)
theorem live_l0 (l : List S43) (hl : l.length ≤ 1000) (N : Nat) : ∀ (d i : Nat) (acc : List Int), l.length - i = d → i ≤ l.length → d < N → acc.length ≤ i → books_Live.l0 N acc l (l.length : Int) (i : Int) = some (acc ++ liveL (l.drop i) (i : Int)) := by
  induction N with
  | zero => intro d i acc _ _ hd; omega
  | succ N ih =>
    intro d i acc hd hi hN ha
    simp only [books_Live.l0]
    by_cases hlt : (i : Int) < (l.length : Int)
    · rw [if_pos hlt, if_pos (by omega), if_pos hlt, rd_drop l i (by omega)]
      simp only [liveL]
      rw [wr (x := (i : Int) + 1) (by omega) (by omega), show (i : Int) + 1 = ((i + 1 : Nat) : Int) by omega]
      split
      · rw [if_pos (by omega), ih (d - 1) (i + 1) _ (by omega) (by omega) (by omega) (by simp; omega)]
        simp
      · exact ih (d - 1) (i + 1) _ (by omega) (by omega) (by omega) (by omega)
    · rw [if_neg hlt, List.drop_eq_nil_of_le (by omega)]; simp [liveL]
theorem live_f {n : Nat} (hn : 1002 ≤ n) {l : List S43} (hl : l.length ≤ 1000) : books_Live.f n l = some (liveL l 0) := by
  unfold books_Live.f
  have := live_l0 l hl n l.length 0 [] (by omega) (by omega) (by omega) (by simp)
  simpa using this
theorem liver_l0 (l : List S43) (hl : l.length ≤ 1000) (N : Nat) : ∀ (d i : Nat) (acc : List Int), l.length - i = d → i ≤ l.length → d < N → acc.length ≤ i → sandglassref16_Live.l0 N l acc (i : Int) = some (acc ++ liveL (l.drop i) (i : Int)) := by
  induction N with
  | zero => intro d i acc _ _ hd; omega
  | succ N ih =>
    intro d i acc hd hi hN ha
    simp only [sandglassref16_Live.l0]
    by_cases hlt : (i : Int) < (l.length : Int)
    · rw [if_pos hlt, if_pos (by omega), rd_drop l i (by omega)]
      simp only [liveL]
      rw [wr (x := (i : Int) + 1) (by omega) (by omega), show (i : Int) + 1 = ((i + 1 : Nat) : Int) by omega]
      split
      · rw [if_pos (by omega), ih (d - 1) (i + 1) _ (by omega) (by omega) (by omega) (by simp; omega)]
        simp
      · exact ih (d - 1) (i + 1) _ (by omega) (by omega) (by omega) (by omega)
    · rw [if_neg hlt, List.drop_eq_nil_of_le (by omega)]; simp [liveL]
theorem live_r {n : Nat} (hn : 1002 ≤ n) {l : List S43} (hl : l.length ≤ 1000) : sandglassref16_Live.f n l = some (liveL l 0) := by
  unfold sandglassref16_Live.f
  have := liver_l0 l hl n l.length 0 [] (by omega) (by omega) (by omega) (by simp)
  simpa using this
theorem liveL_len (l : List S43) : ∀ i, (liveL l i).length ≤ l.length := by
  induction l with
  | nil => intro i; simp [liveL]
  | cons x t ih => intro i; simp only [liveL]; have := ih (i + 1); split <;> simp <;> omega
theorem ints_l0 (a : List Int) (ha : a.length ≤ 1000) (N : Nat) : ∀ (d i : Nat), a.length - i = d → i ≤ a.length → d < N → sandglassref04_Ints.l0 N a a (i : Int) = some true := by
  induction N with
  | zero => intro d i _ _ hd; omega
  | succ N ih =>
    intro d i hd hi hN
    simp only [sandglassref04_Ints.l0]
    by_cases hlt : (i : Int) < (a.length : Int)
    · rw [if_pos hlt, if_pos (by omega), if_pos hlt, if_pos trivial, wr (x := (i : Int) + 1) (by omega) (by omega), show (i : Int) + 1 = ((i + 1 : Nat) : Int) by omega]
      exact ih (d - 1) (i + 1) (by omega) (by omega) (by omega)
    · rw [if_neg hlt]
theorem ints_f {n : Nat} (hn : 1002 ≤ n) {a : List Int} (ha : a.length ≤ 1000) : sandglassref04_Ints.f n a a = some true := by
  unfold sandglassref04_Ints.f
  rw [if_pos rfl]
  have := ints_l0 a ha n a.length 0 (by omega) (by omega) (by omega)
  simpa using this
theorem same_l0 (a : List S43) (ha : a.length ≤ 1000) (N : Nat) : ∀ (d i : Nat), a.length - i = d → i ≤ a.length → d < N → sandglassref16_Same.l0 N a a (i : Int) = some true := by
  induction N with
  | zero => intro d i _ _ hd; omega
  | succ N ih =>
    intro d i hd hi hN
    simp only [sandglassref16_Same.l0]
    by_cases hlt : (i : Int) < (a.length : Int)
    · rw [if_pos hlt, if_pos (by omega), if_pos hlt, if_neg (by simp), wr (x := (i : Int) + 1) (by omega) (by omega), show (i : Int) + 1 = ((i + 1 : Nat) : Int) by omega]
      exact ih (d - 1) (i + 1) (by omega) (by omega) (by omega)
    · rw [if_neg hlt]
theorem same_f {n : Nat} (hn : 1002 ≤ n) {a : List S43} (ha : a.length ≤ 1000) : sandglassref16_Same.f n a a = some true := by
  unfold sandglassref16_Same.f
  rw [if_pos rfl]
  have := same_l0 a ha n a.length 0 (by omega) (by omega) (by omega)
  simpa using this
/-- The document's May: the same. -/
theorem mayr_l0 (l : List S43) (hl : l.length ≤ 1000) (N : Nat) : ∀ (d i : Nat), l.length - i = d → i ≤ l.length → 4 * d + 8 < N → sandglassref16_May.l0 N l (i : Int) = some (!(l.drop i).any oddF) := by
  induction N using Nat.strongRecOn with
  | _ N ih =>
    intro d i hd hi hN
    obtain ⟨M, rfl⟩ : ∃ M, N = M + 8 := ⟨N - 8, by omega⟩
    simp only [show M + 8 = (M + 7) + 1 from rfl, sandglassref16_May.l0]
    by_cases hlt : (i : Int) < (l.length : Int)
    · rw [if_pos hlt, if_pos (by omega), rd_drop l i (by omega), List.any_cons]
      have E : ∀ K, K + 1 = M + 5 → sandglassref16_May.j3 (K + 1) l (i : Int) false = some (!(l.drop (i + 1)).any oddF) := by
        intro K hK
        simp only [sandglassref16_May.j3, Bool.false_eq_true, if_false]
        rw [wr (x := (i : Int) + 1) (by omega) (by omega), show (i : Int) + 1 = ((i + 1 : Nat) : Int) by omega]
        exact ih K (by omega) (d - 1) (i + 1) (by omega) (by omega) (by omega)
      generalize hx : rd_T43 l (i : Int) = x
      have hr : rd_T43 l (i : Int) = x := hx
      clear hx
      by_cases h1 : x.f2 < 0
      · rw [if_pos h1]; simp [show M + 7 = (M + 6) + 1 from rfl, sandglassref16_May.j1, oddF, h1]
      rw [if_neg h1]
      by_cases h2 : x.f2 > 1073741824
      · simp [show M + 7 = (M + 6) + 1 from rfl, sandglassref16_May.j1, oddF, h2]
      rw [decide_eq_false h2]
      simp only [show M + 7 = (M + 6) + 1 from rfl, sandglassref16_May.j1, Bool.false_eq_true, if_false]
      rw [if_pos (by omega), if_pos hlt, hr]
      cases hb : x.f0
      · simp only [Bool.false_eq_true, if_false, show M + 6 = (M + 5) + 1 from rfl, sandglassref16_May.j2]
        rw [if_pos (by omega), if_pos hlt, hr, hb]
        simp only [Bool.false_eq_true, if_false]
        have ho : oddF x = (!(x.f1.f0 == 0) || (!(x.f1.f1 == 0) || (!(x.f1.f2 == 0) || !(x.f1.f3 == 0)))) := by
          unfold oddF
          simp only [hb, decide_eq_false h1, decide_eq_false h2, Bool.false_or, Bool.false_eq_true, if_false]
        rw [ho]
        cases hz : (!(x.f1.f0 == 0) || (!(x.f1.f1 == 0) || (!(x.f1.f2 == 0) || !(x.f1.f3 == 0))))
        · rw [show M + 5 = (M + 4) + 1 from rfl, E (M + 4) rfl]; simp
        · simp [show M + 5 = (M + 4) + 1 from rfl, sandglassref16_May.j3]
      · simp only [if_true]
        rw [show M + 6 = (M + 3) + 3 from rfl, refCheck, Option.bind_some]
        have ho : oddF x = ((x.f2 == 0) || !polOk x.f1.f0 x.f1.f1 x.f1.f2 x.f1.f3) := by
          unfold oddF
          simp only [hb, decide_eq_false h1, decide_eq_false h2, Bool.false_or, if_true]
        rw [ho]
        cases hp : polOk x.f1.f0 x.f1.f1 x.f1.f2 x.f1.f3
        · simp [show M + 3 + 3 = (M + 5) + 1 from rfl, sandglassref16_May.j2]
        · simp only [if_true, show M + 3 + 3 = (M + 5) + 1 from rfl, sandglassref16_May.j2]
          by_cases h3 : x.f2 < 1
          · rw [decide_eq_true h3]; simp [show x.f2 = 0 by omega]
          · rw [decide_eq_false h3]
            simp only [Bool.false_eq_true, if_false]
            rw [if_pos (by omega), if_pos hlt, hr, hb, if_pos rfl, show M + 5 = (M + 4) + 1 from rfl, E (M + 4) rfl]
            simp [show ¬ x.f2 = 0 by omega]
    · rw [if_neg hlt, List.drop_eq_nil_of_le (by omega)]; rfl
theorem may_r {n : Nat} (hn : 60 ≤ n) (l : List S43) : sandglassref16_May.f n l = some (mayF l) := by
  unfold sandglassref16_May.f mayF
  by_cases h : l.length = 8
  · rw [if_pos (by omega)]
    have := mayr_l0 l (by omega) n 8 0 (by omega) (by omega) (by omega)
    rw [show ((0 : Nat) : Int) = 0 from rfl] at this
    rw [this]; simp [h]
  · rw [if_neg (by omega)]; simp [h]
theorem get_r {n : Nat} (hn : 60 ≤ n) (l : List S43) (i : Int) : sandglassref16_Get.f n l i = some (getF l i) := by
  obtain ⟨n, rfl⟩ : ∃ m, n = m + 1 := ⟨n - 1, by omega⟩
  unfold sandglassref16_Get.f getF thereF
  rw [may_r hn, Option.bind_some]
  cases h : mayF l
  · simp [sandglassref16_Get.j0]
  · have q := may_len h
    simp only [if_true, Bool.true_and]
    by_cases h0 : i < 0
    · rw [if_pos h0]; simp [sandglassref16_Get.j0, show ¬ 0 ≤ i by omega]
    · rw [if_neg h0]
      by_cases h1 : i ≥ 8
      · simp [sandglassref16_Get.j0, h1, show ¬ i < 8 by omega]
      · rw [decide_eq_false h1, decide_eq_true (show 0 ≤ i by omega), decide_eq_true (show i < 8 by omega)]
        simp only [sandglassref16_Get.j0, Bool.false_eq_true, if_false, Bool.and_self, if_true]
        rw [if_pos (by omega), if_pos (by omega)]
        split <;> rfl
theorem set_r {n : Nat} (hn : 60 ≤ n) (l : List S43) (i a b c d : Int) : sandglassref16_Set.f n l i a b c d = some (setF l i a b c d) := by
  obtain ⟨n, rfl⟩ : ∃ m, n = m + 3 := ⟨n - 3, by omega⟩
  unfold sandglassref16_Set.f setF
  rw [may_r hn, Option.bind_some]
  have T : sandglassref16_Set.j0 (n + 3) l i true a b c d = some (l, 0, 1) := by simp [show n + 3 = (n + 2) + 1 from rfl, sandglassref16_Set.j0]
  cases h : mayF l
  · simp [T, thereF, h]
  · have q := may_len h
    simp only [if_true]
    by_cases h0 : i < 0
    · rw [if_pos h0, T]; simp [thereF, show ¬ 0 ≤ i by omega]
    · rw [if_neg h0]
      by_cases h1 : i ≥ 8
      · rw [if_pos h1, T]; simp [thereF, show ¬ i < 8 by omega]
      · rw [if_neg h1, refCheck, Option.bind_some]
        have ht : thereF l i = true := by unfold thereF; rw [h, decide_eq_true (show 0 ≤ i by omega), decide_eq_true (show i < 8 by omega)]; rfl
        have v := ver_is ht
        rw [ht]
        cases hp : polOk a b c d
        · simp [T]
        · simp only [if_true, Bool.and_self, show ((0 : Int) != 0) = false from rfl]
          simp only [show n + 3 = (n + 2) + 1 from rfl, sandglassref16_Set.j0, Bool.false_eq_true, if_false]
          rw [if_pos (by omega), if_pos (by omega)]
          by_cases hv : (rd_T43 l i).f2 = 1073741824
          · rw [if_pos (by omega), if_pos hv]
          · rw [if_neg (by omega), if_neg hv, Option.bind_some, if_pos (by simp; omega), Option.bind_some, List.nil_append, if_pos (by omega), Option.bind_some, rd_put l i i _ (by omega) (by omega) (by omega), if_pos rfl, wr (by omega) (by omega)]
theorem del_r {n : Nat} (hn : 60 ≤ n) (l : List S43) (i : Int) : sandglassref16_Delete.f n l i = some (delF l i) := by
  obtain ⟨n, rfl⟩ : ∃ m, n = m + 1 := ⟨n - 1, by omega⟩
  unfold sandglassref16_Delete.f delF thereF
  rw [may_r hn, Option.bind_some]
  cases h : mayF l
  · simp [sandglassref16_Delete.j0]
  · have q := may_len h
    simp only [if_true, Bool.true_and]
    by_cases h0 : i < 0
    · rw [if_pos h0]; simp [sandglassref16_Delete.j0, show ¬ 0 ≤ i by omega]
    · rw [if_neg h0]
      by_cases h1 : i ≥ 8
      · simp [sandglassref16_Delete.j0, h1, show ¬ i < 8 by omega]
      · rw [decide_eq_false h1, decide_eq_true (show 0 ≤ i by omega), decide_eq_true (show i < 8 by omega)]
        simp only [sandglassref16_Delete.j0, Bool.false_eq_true, if_false, Bool.and_self, if_true]
        rw [if_pos (by omega), if_pos (by omega)]
        split
        · rw [Option.bind_some, if_pos (by simp; omega), Option.bind_some, List.nil_append, if_pos (by omega)]
        · rfl
theorem new_f : books_New.f = some (List.replicate 8 z43) := rfl
theorem new_r : sandglassref16_New.f = some (List.replicate 8 z43) := rfl
theorem live_ok : sandglasslaw16_live.f 40 = some true := by decide +kernel
theorem live_up (n : Nat) : sandglasslaw16_live.f (40 + n) = some true := by
  induction n with
  | zero => exact live_ok
  | succ n ih => exact sandglasslaw16_live.mono (40 + n) _ ih
theorem live_at {n : Nat} (h : 40 ≤ n) : sandglasslaw16_live.f n = some true := by
  have := live_up (n - 40)
  rwa [show 40 + (n - 40) = n by omega] at this
end Go.Proofs.Ythplifnhibahpaa.La
