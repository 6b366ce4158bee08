/- The functions of layer 13 (exact), told in closed form. -/
import Derived.Test.YtempbjcmhillgaaQ13
import Derived.Test.YtempbjcmhillgaaQ15
import Derived.Test.YtempbjcmhillgaaQ14
import Derived.Test.YtempbjcmhillgaaQ16
import Derived.Test.YtempbjcmhillgaaQ3
import Derived.IntWalk
namespace Go.Proofs.Ytempbjcmhillgaa.La
open Go.RowKit Go.Proofs.YtempbjcmhillgaaW.PrintWords Go.Proofs.YtempbjcmhillgaaW.PrintLast Go.Proofs.YtempbjcmhillgaaW.PrintMore Go.Proofs.Ytempbjcmhillgaa.Q
set_option linter.unusedSimpArgs false
set_option linter.unusedVariables false
theorem wr {x : Int} (h0 : -9223372036854775808 ≤ x) (h1 : x < 9223372036854775808) : wrap64 x = x := by unfold wrap64; omega
theorem mx_le (a b : Int) : a ≤ mx a b ∧ b ≤ mx a b ∧ (mx a b = a ∨ mx a b = b) := by unfold mx; split <;> omega
theorem mx_self (u : Int) : mx u u = u := by unfold mx; split <;> rfl
def timeF (t : Int) : Bool := decide (0 ≤ t) && decide (t ≤ 1099511627776)
def weighF (w : Int) : Bool := decide (1 ≤ w) && decide (w ≤ 1048576)
theorem time_f (t : Int) : exact_time.f t = some (timeF t) := by
  unfold exact_time.f timeF; by_cases h : t ≥ 0 <;> simp [h, show (0 ≤ t) = (t ≥ 0) from rfl]
theorem weigh_f (t : Int) : policy_Weighs.f t = some (weighF t) := by
  unfold policy_Weighs.f policy_within_int.f weighF; by_cases h : t ≥ 1 <;> simp [h, show (1 ≤ t) = (t ≥ 1) from rfl]
theorem time_is {t : Int} : timeF t = true ↔ 0 ≤ t ∧ t ≤ 1099511627776 := by unfold timeF; simp
theorem weigh_is {t : Int} : weighF t = true ↔ 1 ≤ t ∧ t ≤ 1048576 := by unfold weighF; simp
/-- All weights together. -/
def cnt : List S50 → Int
  | [] => 0
  | h :: t => h.f1 + cnt t
theorem cnt_append (a b : List S50) : cnt (a ++ b) = cnt a + cnt b := by
  induction a with
  | nil => simp [cnt]
  | cons h t ih => simp only [List.cons_append, cnt, ih]; omega
/-- Hits that rise, behind a tick, up to another one, of weights from 1 to a limit. -/
def okL (lim a : Int) : Int → List S50 → Bool
  | _, [] => true
  | last, h :: t => decide (last < h.f0) && (decide (h.f0 ≤ a) && (decide (1 ≤ h.f1) && (decide (h.f1 ≤ lim) && okL lim a h.f0 t)))
theorem okL_cons {lim a last : Int} {h : S50} {t : List S50} : okL lim a last (h :: t) = true ↔ last < h.f0 ∧ h.f0 ≤ a ∧ 1 ≤ h.f1 ∧ h.f1 ≤ lim ∧ okL lim a h.f0 t = true := by
  simp [okL]
theorem rd_drop (l : List S50) (i : Nat) (h : i < l.length) : l.drop i = rd_T50 l (i : Int) :: l.drop (i + 1) := by
  rw [List.drop_eq_getElem_cons h]
  congr 1
  unfold rd_T50
  rw [Int.toNat_natCast, List.getD_eq_getElem?_getD, List.getElem?_eq_getElem h]; rfl
/-- Weights that do not overflow. -/
def okW (l : List S50) : Prop := l.length ≤ 1000 ∧ ∀ h ∈ l, 0 ≤ h.f1 ∧ h.f1 ≤ 4194304
theorem okW_rd {l : List S50} (h : okW l) (i : Nat) (hi : i < l.length) : 0 ≤ (rd_T50 l (i : Int)).f1 ∧ (rd_T50 l (i : Int)).f1 ≤ 4194304 := by
  apply h.2
  unfold rd_T50
  rw [Int.toNat_natCast, List.getD_eq_getElem?_getD, List.getElem?_eq_getElem hi]
  exact List.getElem_mem hi
theorem cnt_bd {l : List S50} (h : ∀ x ∈ l, 0 ≤ x.f1 ∧ x.f1 ≤ 4194304) : 0 ≤ cnt l ∧ cnt l ≤ 4194304 * l.length := by
  induction l with
  | nil => simp [cnt]
  | cons x t ih =>
    have h1 := h x (by simp)
    have h2 := ih (fun y hy => h y (by simp [hy]))
    simp only [cnt, List.length_cons]
    omega
theorem okW_cnt {l : List S50} (h : okW l) : 0 ≤ cnt l ∧ cnt l ≤ 4194304000 := by
  have := cnt_bd h.2
  have := h.1
  omega
theorem count_l0 (l : List S50) (h : okW l) (N : Nat) : ∀ (d i : Nat) (n : Int), l.length - i = d → i ≤ l.length → d < N → 0 ≤ n → n ≤ 4194304 * i → exact_count.l0 N n l (l.length : Int) (i : Int) = some (n + cnt (l.drop i)) := by
  induction N with
  | zero => intro d i n _ _ hd; omega
  | succ N ih =>
    intro d i n hd hi hN n0 n1
    have hl := h.1
    simp only [exact_count.l0]
    by_cases hlt : (i : Int) < (l.length : Int)
    · have hw := okW_rd h i (by omega)
      rw [if_pos hlt, if_pos (by omega), if_pos hlt, wr (x := n + _) (by omega) (by omega), wr (x := (i : Int) + 1) (by omega) (by omega), show (i : Int) + 1 = ((i + 1 : Nat) : Int) by omega, ih (d - 1) (i + 1) _ (by omega) (by omega) (by omega) (by omega) (by omega), rd_drop l i (by omega)]
      simp only [cnt]; congr 1; omega
    · rw [if_neg hlt, List.drop_eq_nil_of_le (by omega)]; simp [cnt]
theorem count_f {n : Nat} (hn : 1100 ≤ n) {l : List S50} (h : okW l) : exact_count.f n l = some (cnt l) := by
  have hl := h.1
  unfold exact_count.f
  have := count_l0 l h n l.length 0 0 (by omega) (by omega) (by omega) (by omega) (by omega)
  simpa using this
/-- Those that count behind a tick. -/
def since (c : Int) (l : List S50) : List S50 := l.dropWhile fun h => decide (h.f0 ≤ c)
theorem since_l0 (l : List S50) (hl : l.length ≤ 1000) (t k p w b : Int) (hc : -9223372036854775808 ≤ t - w ∧ t - w < 9223372036854775808) (N : Nat) : ∀ (d i : Nat), l.length - i = d → i ≤ l.length → d < N → exact_since.l0 N l t (i : Int) k p w b = some (since (t - w) (l.drop i)) := by
  induction N with
  | zero => intro d i _ _ hd; omega
  | succ N ih =>
    intro d i hd hi hN
    simp only [exact_since.l0]
    by_cases hlt : (i : Int) < (l.length : Int)
    · rw [if_pos hlt, if_pos (by omega), wr hc.1 hc.2, rd_drop l i (by omega)]
      by_cases h1 : (rd_T50 l (i : Int)).f0 > t - w
      · rw [if_pos h1, if_pos (by omega)]
        unfold since
        rw [List.dropWhile_cons_of_neg (by simp; omega), Int.toNat_natCast, rd_drop l i (by omega)]
      · rw [if_neg h1, wr (x := (i : Int) + 1) (by omega) (by omega), show (i : Int) + 1 = ((i + 1 : Nat) : Int) by omega, ih (d - 1) (i + 1) (by omega) (by omega) (by omega)]
        unfold since
        rw [List.dropWhile_cons_of_pos (by simp; omega)]
    · rw [if_neg hlt, if_pos (by omega), if_pos (by omega), Int.toNat_natCast, List.drop_eq_nil_of_le (by omega)]
      rfl
theorem since_f {n : Nat} (hn : 1100 ≤ n) (k p w b : Int) {l : List S50} (hl : l.length ≤ 1000) (t : Int) (hc : -9223372036854775808 ≤ t - w ∧ t - w < 9223372036854775808) : exact_since.f n k p w b l t = some (since (t - w) l) := by
  unfold exact_since.f
  have := since_l0 l hl t k p w b hc n l.length 0 (by omega) (by omega) (by omega)
  simpa using this
theorem since_sub (c : Int) (l : List S50) : ∀ h ∈ since c l, h ∈ l := fun h hh => (List.dropWhile_sublist _).subset hh
theorem since_len (c : Int) (l : List S50) : (since c l).length ≤ l.length := (List.dropWhile_sublist _).length_le
theorem okW_since {c : Int} {l : List S50} (h : okW l) : okW (since c l) := ⟨Nat.le_trans (since_len c l) h.1, fun x hx => h.2 x (since_sub c l x hx)⟩
theorem clone_f {l : List S50} (h : l.length ≤ 1001) : api_Hit.f l = some l := by
  unfold api_Hit.f
  simp only [Option.bind_some, List.length_nil, List.nil_append]
  rw [if_pos (by omega)]
/-- Till when more than so much counts. -/
def waitU (w most : Int) : Int → Int → List S50 → Int
  | _, u, [] => u
  | n, u, h :: r => if n ≤ most then u else waitU w most (n - h.f1) (h.f0 + w) r
theorem wait_l0 (l : List S50) (h : okW l) (k p w b t most : Int) (w0 : 0 ≤ w) (w1 : w ≤ 1048576) (t0 : 0 ≤ t) (t1 : t ≤ 1099511627776) (ht : ∀ x ∈ l, 0 ≤ x.f0 ∧ x.f0 ≤ 1099511627776) (N : Nat) : ∀ (d i : Nat) (n u : Int), l.length - i = d → i ≤ l.length → d < N → n ≤ 4194304000 → 0 ≤ n + 4194304 * i → 0 ≤ u → u ≤ 1099512676352 →
    exact_wait.l0 N t most n u l (l.length : Int) (i : Int) k p w b = some (waitU w most n u (l.drop i) - t) := by
  induction N with
  | zero => intro d i n u _ _ hd; omega
  | succ N ih =>
    intro d i n u hd hi hN n0 n1 u0 u1
    have hl := h.1
    simp only [exact_wait.l0]
    by_cases hlt : (i : Int) < (l.length : Int)
    · have hw := okW_rd h i (by omega)
      have hx : 0 ≤ (rd_T50 l (i : Int)).f0 ∧ (rd_T50 l (i : Int)).f0 ≤ 1099511627776 := by
        apply ht
        unfold rd_T50
        rw [Int.toNat_natCast, List.getD_eq_getElem?_getD, List.getElem?_eq_getElem (show i < l.length by omega)]
        exact List.getElem_mem _
      rw [if_pos hlt, if_pos (by omega), if_pos hlt, rd_drop l i (by omega)]
      simp only [waitU]
      by_cases h1 : n ≤ most
      · rw [if_pos h1, if_pos h1, wr (by omega) (by omega)]
      · rw [if_neg h1, if_neg h1, wr (x := n - _) (by omega) (by omega), wr (x := (rd_T50 l (i : Int)).f0 + w) (by omega) (by omega), wr (x := (i : Int) + 1) (by omega) (by omega), show (i : Int) + 1 = ((i + 1 : Nat) : Int) by omega]
        exact ih (d - 1) (i + 1) _ _ (by omega) (by omega) (by omega) (by omega) (by omega) (by omega) (by omega)
    · rw [if_neg hlt, List.drop_eq_nil_of_le (by omega)]
      simp only [waitU]
      rw [wr (by omega) (by omega)]
theorem wait_f {n : Nat} (hn : 1100 ≤ n) {l : List S50} (h : okW l) (k p w b t most : Int) (w0 : 0 ≤ w) (w1 : w ≤ 1048576) (t0 : 0 ≤ t) (t1 : t ≤ 1099511627776) (ht : ∀ x ∈ l, 0 ≤ x.f0 ∧ x.f0 ≤ 1099511627776) : exact_wait.f n k p w b l t most = some (waitU w most (cnt l) t l - t) := by
  have c := okW_cnt h
  have hl := h.1
  unfold exact_wait.f
  rw [count_f hn h, Option.bind_some]
  have := wait_l0 l h k p w b t most w0 w1 t0 t1 ht n l.length 0 (cnt l) t (by omega) (by omega) (by omega) (by omega) (by omega) (by omega) (by omega)
  simpa using this
theorem may_l0 (L : List S50) (hL : L.length ≤ 1000) (k l w b a v : Int) (s : List Int) (hs : List S50) (hl : l ≤ 16) (N : Nat) : ∀ (d i : Nat) (n last : Int), L.length - i = d → i ≤ L.length → 2 * d < N → 0 ≤ n → n ≤ 16 * i → exact_May.l0 N n last L (L.length : Int) (i : Int) k l w b a v s hs = some (okL l a last (L.drop i) && decide (n + cnt (L.drop i) ≤ l)) := by
  induction N using Nat.strongRecOn with
  | _ N ih =>
    intro d i n last hd hi hN n0 n1
    obtain ⟨M, rfl⟩ : ∃ M, N = M + 1 := ⟨N - 1, by omega⟩
    simp only [exact_May.l0]
    by_cases hlt : (i : Int) < (L.length : Int)
    · obtain ⟨P, rfl⟩ : ∃ P, M = P + 1 := ⟨M - 1, by omega⟩
      rw [if_pos hlt, if_pos (by omega), if_pos hlt, rd_drop L i (by omega)]
      generalize rd_T50 L (i : Int) = h
      have F : ∀ x1 x2, exact_May.j2 (P + 1) n L (L.length : Int) (i : Int) true k l w b a v s hs x1 x2 = some false := by intros; simp [exact_May.j2]
      by_cases c1 : h.f0 ≤ last
      · rw [if_pos c1, F]; simp [okL, show ¬ last < h.f0 by omega]
      rw [if_neg c1]
      by_cases c2 : h.f0 > a
      · rw [if_pos c2, F]; simp [okL, show ¬ h.f0 ≤ a by omega]
      rw [if_neg c2]
      by_cases c3 : h.f1 < 1
      · rw [if_pos c3, F]; simp [okL, show ¬ 1 ≤ h.f1 by omega]
      rw [if_neg c3]
      by_cases c4 : h.f1 > l
      · rw [decide_eq_true c4, F]; simp [okL, show ¬ h.f1 ≤ l by omega]
      rw [decide_eq_false c4]
      simp only [exact_May.j2, Bool.false_eq_true, if_false]
      rw [wr (x := n + h.f1) (by omega) (by omega), wr (x := (i : Int) + 1) (by omega) (by omega), show (i : Int) + 1 = ((i + 1 : Nat) : Int) by omega, ih P (by omega) (d - 1) (i + 1) _ _ (by omega) (by omega) (by omega) (by omega) (by omega)]
      simp only [okL, cnt, decide_eq_true (show last < h.f0 by omega), decide_eq_true (show h.f0 ≤ a by omega), decide_eq_true (show 1 ≤ h.f1 by omega), decide_eq_true (show h.f1 ≤ l by omega), Bool.true_and]
      exact congrArg (fun q => some (okL l a h.f0 (List.drop (i + 1) L) && q)) (decide_eq_decide.2 (by omega))
    · rw [if_neg hlt, List.drop_eq_nil_of_le (by omega)]; simp [okL, cnt]
def mayF (k l w b a v : Int) (s : List Int) (h : List S50) : Bool :=
  polOk k l w b && (decide (k = 4) && (timeF a && (decide (v = 0) && (decide (s.length = 0) && (okL l a (mx (-1) (a - w)) h && decide (cnt h ≤ l))))))
theorem pol_is {k l w b : Int} (h : polOk k l w b = true) : 1 ≤ l ∧ l ≤ 1048576 ∧ 1 ≤ w ∧ w ≤ 1048576 ∧ (k = 4 → l ≤ 16) := by
  unfold polOk withinB at h
  simp only [Bool.and_eq_true, decide_eq_true_eq] at h
  obtain ⟨⟨⟨_, hl⟩, hw⟩, hb⟩ := h
  refine ⟨hl.1, hl.2, hw.1, hw.2, fun h4 => ?_⟩
  rw [if_neg (by omega), if_pos h4] at hb
  unfold exactB at hb
  simp only [Bool.and_eq_true, decide_eq_true_eq] at hb
  exact hb.2
theorem may_f {n : Nat} (hn : 2100 ≤ n) (k l w b a v : Int) (s : List Int) (h : List S50) (hh : h.length ≤ 1000) : exact_May.f n k l w b a v s h = some (mayF k l w b a v s h) := by
  obtain ⟨n, rfl⟩ : ∃ m, n = m + 1 := ⟨n - 1, by omega⟩
  unfold exact_May.f policy_Check.f mayF
  simp only [Option.bind_some, time_f]
  cases hp : polOk k l w b
  · simp [exact_May.j0]
  · have q := pol_is hp
    by_cases h1 : k = 4
    · cases h2 : timeF a
      · simp [h1, exact_May.j0]
      · have ha := time_is.1 h2
        by_cases h3 : v = 0
        · by_cases h4 : s.length = 0
          · have e : ((s.length : Int) != 0) = false := by simp [h4]
            simp only [h1, h3, e, if_true, exact_May.j0, Bool.false_eq_true, if_false]
            rw [wr (x := a - w) (by omega) (by omega)]
            have := may_l0 h hh 4 l w b a 0 s h (q.2.2.2.2 h1) n h.length 0 0 (mx (-1) (a - w)) (by omega) (by omega) (by omega) (by omega) (by omega)
            rw [show ((0 : Nat) : Int) = 0 from rfl] at this
            rw [this]; simp [h4]
          · have e : ((s.length : Int) != 0) = true := by rw [bne_iff_ne]; omega
            simp [h1, h3, e, h4, exact_May.j0]
        · simp [h1, h3, exact_May.j0]
    · simp [h1, exact_May.j0]
theorem may_is {k l w b a v : Int} {s : List Int} {h : List S50} (hm : mayF k l w b a v s h = true) : k = 4 ∧ 1 ≤ l ∧ l ≤ 16 ∧ 1 ≤ w ∧ w ≤ 1048576 ∧ 0 ≤ a ∧ a ≤ 1099511627776 ∧ v = 0 ∧ s = [] ∧ okL l a (mx (-1) (a - w)) h = true ∧ cnt h ≤ l := by
  unfold mayF timeF at hm
  simp only [Bool.and_eq_true, decide_eq_true_eq] at hm
  obtain ⟨hp, hk, ha, hv, hs, ho, hc⟩ := hm
  have q := pol_is hp
  exact ⟨hk, q.1, q.2.2.2.2 hk, q.2.2.1, q.2.2.2.1, ha.1, ha.2, hv, List.length_eq_zero_iff.1 hs, ho, hc⟩
theorem may_to {k l w b a v : Int} {s : List Int} {h : List S50} (hm : mayF k l w b a v s h = true) {a' : Int} {h' : List S50} (h0 : 0 ≤ a') (h1 : a' ≤ 1099511627776) (h2 : okL l a' (mx (-1) (a' - w)) h' = true) (h3 : cnt h' ≤ l) : mayF k l w b a' 0 [] h' = true := by
  unfold mayF timeF at hm ⊢
  simp only [Bool.and_eq_true, decide_eq_true_eq] at hm ⊢
  exact ⟨hm.1, hm.2.1, ⟨h0, h1⟩, by simp, by simp, h2, h3⟩
/-- A weight more at a tick. -/
def addL (t x : Int) (l : List S50) : List S50 :=
  if l.length = 0 ∨ (rd_T50 l ((l.length : Int) - 1)).f0 ≠ t then l ++ [⟨t, x⟩] else l.set (l.length - 1) ⟨(rd_T50 l ((l.length : Int) - 1)).f0, (rd_T50 l ((l.length : Int) - 1)).f1 + x⟩
def askF (l w a : Int) (h : List S50) (t x : Int) : Int × Int × List Int × List S50 × Bool × Int × Int × Int :=
  let u := mx t a
  let r := since (u - w) h
  if cnt r + x ≤ l then (u, 0, [], addL u x r, true, l - cnt (addL u x r), 0, waitU w 0 (cnt (addL u x r)) u (addL u x r) - u)
  else (u, 0, [], r, false, l - cnt r, if x > l then 2199023255552 else waitU w (l - x) (cnt r) u r - u, waitU w 0 (cnt r) u r - u)
def askV (k l w b a v : Int) (s : List Int) (h : List S50) (t x : Int) : Int × Int × List Int × List S50 × Bool × Int × Int × Int :=
  if mayF k l w b a v s h && timeF t && weighF x then askF l w a h t x else (a, v, s, h, false, 0, 0, 0)
/-- Hits that may be. -/
theorem okL_mem {lim a : Int} : ∀ {last : Int} {h : List S50}, okL lim a last h = true → ∀ x ∈ h, last < x.f0 ∧ x.f0 ≤ a ∧ 1 ≤ x.f1 ∧ x.f1 ≤ lim := by
  intro last h
  induction h generalizing last with
  | nil => intro _ x hx; cases hx
  | cons y t ih =>
    intro ho x hx
    have q := okL_cons.1 ho
    rcases List.mem_cons.1 hx with rfl | hx
    · exact ⟨q.1, q.2.1, q.2.2.1, q.2.2.2.1⟩
    · have := ih q.2.2.2.2 x hx
      exact ⟨by omega, this.2⟩
theorem okL_W {lim a last : Int} {h : List S50} (hl : lim ≤ 16) (ho : okL lim a last h = true) (hh : h.length ≤ 1000) : okW h := ⟨hh, fun x hx => by have := okL_mem ho x hx; omega⟩
theorem okL_since {lim a c : Int} : ∀ {last : Int} {h : List S50}, okL lim a last h = true → okL lim a last (since c h) = true ∧ ∀ x ∈ since c h, c < x.f0 := by
  intro last h
  induction h generalizing last with
  | nil => intro _; exact ⟨rfl, fun x hx => by cases hx⟩
  | cons y t ih =>
    intro ho
    have q := okL_cons.1 ho
    unfold since
    by_cases hy : y.f0 ≤ c
    · rw [List.dropWhile_cons_of_pos (by simpa using hy)]
      have := ih q.2.2.2.2
      refine ⟨?_, this.2⟩
      have h1 := this.1
      unfold since at h1
      generalize List.dropWhile (fun h => decide (h.f0 ≤ c)) t = r at h1
      cases r with
      | nil => rfl
      | cons z r => have q2 := okL_cons.1 h1; exact okL_cons.2 ⟨by omega, q2.2⟩
    · rw [List.dropWhile_cons_of_neg (by simpa using hy)]
      refine ⟨ho, fun x hx => ?_⟩
      rcases List.mem_cons.1 hx with rfl | hx
      · omega
      · have := okL_mem q.2.2.2.2 x hx; omega
theorem okL_up {lim a a' : Int} : ∀ {last : Int} {h : List S50}, okL lim a last h = true → (∀ x ∈ h, x.f0 ≤ a') → okL lim a' last h = true := by
  intro last h
  induction h generalizing last with
  | nil => intro _ _; rfl
  | cons y t ih =>
    intro ho hx
    have q := okL_cons.1 ho
    exact okL_cons.2 ⟨q.1, hx y (by simp), q.2.2.1, q.2.2.2.1, ih q.2.2.2.2 (fun x h => hx x (by simp [h]))⟩
theorem okL_low {lim a last last' : Int} {h : List S50} (ho : okL lim a last h = true) (hx : ∀ x ∈ h, last' < x.f0) : okL lim a last' h = true := by
  cases h with
  | nil => rfl
  | cons y t => have q := okL_cons.1 ho; exact okL_cons.2 ⟨hx y (by simp), q.2⟩
/-- The last hit. -/
theorem rd_last (m : List S50) (y : S50) : rd_T50 (m ++ [y]) (((m ++ [y]).length : Int) - 1) = y := by
  unfold rd_T50
  have : (((m ++ [y]).length : Int) - 1).toNat = m.length := by rw [List.length_append, List.length_singleton]; omega
  rw [this, List.getD_eq_getElem?_getD, List.getElem?_append_right (Nat.le_refl _)]
  simp
theorem addL_nil (t x : Int) : addL t x [] = [⟨t, x⟩] := by unfold addL; simp
theorem addL_snoc (t x : Int) (m : List S50) (y : S50) : addL t x (m ++ [y]) = if y.f0 = t then m ++ [⟨t, y.f1 + x⟩] else m ++ [y, ⟨t, x⟩] := by
  unfold addL
  rw [rd_last]
  by_cases h : y.f0 = t
  · rw [if_neg (by simp [h]), if_pos h, h]
    simp
  · rw [if_pos (Or.inr h), if_neg h]
    simp
theorem snoc_cases (l : List S50) : l = [] ∨ ∃ m y, l = m ++ [y] := by
  rcases List.eq_nil_or_concat l with h | ⟨m, y, h⟩
  · exact Or.inl h
  · exact Or.inr ⟨m, y, by simpa using h⟩
theorem cnt_add (t x : Int) (l : List S50) : cnt (addL t x l) = cnt l + x := by
  rcases snoc_cases l with rfl | ⟨m, y, rfl⟩
  · rw [addL_nil]; simp [cnt]
  · rw [addL_snoc]
    split <;> simp only [cnt_append, cnt] <;> omega
theorem add_len (t x : Int) (l : List S50) : (addL t x l).length ≤ l.length + 1 := by
  rcases snoc_cases l with rfl | ⟨m, y, rfl⟩
  · rw [addL_nil]; simp
  · rw [addL_snoc]
    split <;> simp
theorem add_mem {t x : Int} {l : List S50} : ∀ h ∈ addL t x l, h.f0 = t ∨ h ∈ l := by
  intro h hh
  rcases snoc_cases l with rfl | ⟨m, y, rfl⟩
  · rw [addL_nil] at hh; simp at hh; left; rw [hh]
  · rw [addL_snoc] at hh
    split at hh
    · rcases List.mem_append.1 hh with h1 | h1
      · right; simp [h1]
      · simp at h1; left; rw [h1]
    · rename_i hne
      rcases List.mem_append.1 hh with h1 | h1
      · right; simp [h1]
      · simp at h1
        rcases h1 with rfl | rfl
        · right; simp
        · left; rfl
theorem okW_add {t x : Int} {l : List S50} (h : okW l) (hl : l.length ≤ 999) (h0 : 0 ≤ x) (h1 : x ≤ 1048576) (h2 : ∀ y ∈ l, y.f1 ≤ 2097152) : okW (addL t x l) := by
  refine ⟨by have := add_len t x l; omega, ?_⟩
  intro y hy
  rcases snoc_cases l with rfl | ⟨m, z, rfl⟩
  · rw [addL_nil] at hy; simp at hy; rw [hy]; dsimp only; omega
  · rw [addL_snoc] at hy
    have hz := h.2 z (by simp)
    have hz2 := h2 z (by simp)
    split at hy
    · rcases List.mem_append.1 hy with h3 | h3
      · exact h.2 y (by simp [h3])
      · simp at h3; rw [h3]; dsimp only; omega
    · rcases List.mem_append.1 hy with h3 | h3
      · exact h.2 y (by simp [h3])
      · simp at h3
        rcases h3 with rfl | rfl
        · exact hz
        · dsimp only; omega
theorem ask_f {n : Nat} (hn : 2200 ≤ n) (k l w b a v : Int) (s : List Int) (h : List S50) (t x : Int) (hh : h.length ≤ 900) : exact_Ask.f n k l w b a v s h t x = some (askV k l w b a v s h t x) := by
  obtain ⟨n, rfl⟩ : ∃ m, n = m + 3 := ⟨n - 3, by omega⟩
  have T : exact_Ask.j0 (n + 3) t x true k l w b a v s h = some (a, v, s, h, false, 0, 0, 0) := by simp [exact_Ask.j0]
  unfold exact_Ask.f askV
  rw [may_f (by omega) _ _ _ _ _ _ _ _ (by omega), Option.bind_some, time_f, weigh_f]
  cases hm : mayF k l w b a v s h
  · simp [T]
  cases ht : timeF t
  · simp [T]
  cases hx : weighF x
  · simp [T]
  obtain ⟨hk, l0, l1, w0, w1, a0, a1, hv, hs, ho, hc⟩ := may_is hm
  have tt := time_is.1 ht
  have xx := weigh_is.1 hx
  have mm := mx_le t a
  have hW := okL_W l1 ho (by omega)
  have hr := okL_since (c := mx t a - w) ho
  have hrW := okW_since (c := mx t a - w) hW
  have hrl := since_len (mx t a - w) h
  simp only [if_true, Option.bind_some, Bool.not_true, Bool.and_self, exact_Ask.j0, Bool.false_eq_true, if_false]
  generalize hu : mx t a = u at *
  rw [since_f (by omega) k l w b (by omega) u (by omega), Option.bind_some]
  unfold askF
  dsimp only
  rw [hu]
  generalize hR : since (u - w) h = r at *
  have cr := okW_cnt hrW
  have hmem : ∀ y ∈ r, 0 ≤ y.f0 ∧ y.f0 ≤ u := fun y hy => by
    have q := okL_mem hr.1 y hy
    have := mx_le (-1) (a - w)
    exact ⟨by omega, by omega⟩
  have hmem2 : ∀ y ∈ r, y.f1 ≤ 2097152 := fun y hy => by have q := okL_mem hr.1 y hy; omega
  rw [clone_f (by omega), Option.bind_some, count_f (by omega) hrW, Option.bind_some, wr (x := cnt r + x) (by omega) (by omega)]
  have J2 : ∀ (q : List S50) (b1 : Bool) (i1 i2 i3 : Int), okW q → (∀ y ∈ q, 0 ≤ y.f0 ∧ y.f0 ≤ u) → exact_Ask.j2 (n + 1) u q k l w b b1 i1 i2 i3 = some (u, 0, [], q, b1, l - cnt q, i2, waitU w 0 (cnt q) u q - u) := by
    intro q b1 i1 i2 i3 hq hm2
    have cq := okW_cnt hq
    simp only [exact_Ask.j2]
    rw [count_f (by omega) hq, Option.bind_some, wait_f (by omega) hq k l w b u 0 (by omega) w1 (by omega) (by omega) (fun y hy => by have := hm2 y hy; omega), Option.bind_some, wr (x := l - cnt q) (by omega) (by omega)]
  have J2' : ∀ (q : List S50) (b1 : Bool) (i1 i2 i3 : Int), okW q → (∀ y ∈ q, 0 ≤ y.f0 ∧ y.f0 ≤ u) → exact_Ask.j2 (n + 2) u q k l w b b1 i1 i2 i3 = some (u, 0, [], q, b1, l - cnt q, i2, waitU w 0 (cnt q) u q - u) := by
    intro q b1 i1 i2 i3 hq hm2
    have cq := okW_cnt hq
    simp only [exact_Ask.j2]
    rw [count_f (by omega) hq, Option.bind_some, wait_f (by omega) hq k l w b u 0 (by omega) w1 (by omega) (by omega) (fun y hy => by have := hm2 y hy; omega), Option.bind_some, wr (x := l - cnt q) (by omega) (by omega)]
  by_cases hle : cnt r + x ≤ l
  · rw [if_pos hle, if_pos hle]
    have hA := okW_add (t := u) hrW (by omega) (by omega) xx.2 hmem2
    have hAm : ∀ y ∈ addL u x r, 0 ≤ y.f0 ∧ y.f0 ≤ u := fun y hy => by
      rcases add_mem y hy with h1 | h1
      · omega
      · exact hmem y h1
    have J1 : ∀ c, (c = true ↔ (r.length = 0 ∨ (rd_T50 r ((r.length : Int) - 1)).f0 ≠ u)) → exact_Ask.j1 (n + 2) u x r c k l w b true 0 0 0 = some (u, 0, [], addL u x r, true, l - cnt (addL u x r), 0, waitU w 0 (cnt (addL u x r)) u (addL u x r) - u) := by
      intro c hc2
      simp only [exact_Ask.j1]
      cases c with
      | true =>
        have hcc := hc2.1 rfl
        have e : addL u x r = r ++ [⟨u, x⟩] := by unfold addL; rw [if_pos hcc]
        have hlen : ((r ++ [(⟨u, 0⟩ : S50)]).length : Int) = r.length + 1 := by simp
        have hrd := rd_last r (⟨u, 0⟩ : S50)
        rw [hlen] at hrd
        have hin : (r.length : Int) + 1 - 1 = r.length := by omega
        rw [hin] at hrd
        simp only [if_true, Option.bind_some]
        rw [if_pos (by omega), hlen, hin, wr (x := (r.length : Int)) (by omega) (by omega), if_pos (by omega), if_pos (by omega), hrd]
        dsimp only
        rw [wr (x := 0 + x) (by omega) (by omega), Int.toNat_natCast]
        have e2 : (r ++ [(⟨u, 0⟩ : S50)]).set r.length ⟨u, 0 + x⟩ = addL u x r := by rw [e]; simp
        rw [e2]
        exact J2 _ _ _ _ _ hA hAm
      | false =>
        have hcc : ¬ (r.length = 0 ∨ (rd_T50 r ((r.length : Int) - 1)).f0 ≠ u) := fun h => by have := hc2.2 h; cases this
        have hpos : 0 < r.length := by omega
        have e : addL u x r = r.set (r.length - 1) ⟨(rd_T50 r ((r.length : Int) - 1)).f0, (rd_T50 r ((r.length : Int) - 1)).f1 + x⟩ := by unfold addL; rw [if_neg hcc]
        have hw := okW_rd hrW (r.length - 1) (by omega)
        rw [show ((r.length - 1 : Nat) : Int) = (r.length : Int) - 1 by omega] at hw
        simp only [Bool.false_eq_true, if_false]
        rw [wr (x := (r.length : Int) - 1) (by omega) (by omega), if_pos (by omega), if_pos (by omega), wr (x := _ + x) (by omega) (by omega)]
        have e2 : ((r.length : Int) - 1).toNat = r.length - 1 := by omega
        rw [e2, ← e]
        exact J2 _ _ _ _ _ hA hAm
    by_cases h0 : r.length = 0
    · rw [if_pos (by omega)]
      exact J1 true ⟨fun _ => Or.inl h0, fun _ => rfl⟩
    · rw [if_neg (by omega), wr (x := (r.length : Int) - 1) (by omega) (by omega), if_pos (by omega), if_pos (by omega)]
      apply J1
      rw [bne_iff_ne]
      exact ⟨fun h => Or.inr h, fun h => by rcases h with h | h; exact absurd h h0; exact h⟩
  · rw [if_neg hle, if_neg hle]
    by_cases hxl : x > l
    · rw [if_pos hxl, if_pos hxl]
      exact J2' _ _ _ _ _ hrW hmem
    · rw [if_neg hxl, if_neg hxl, wr (x := l - x) (by omega) (by omega), wait_f (by omega) hrW k l w b u (l - x) (by omega) w1 (by omega) (by omega) (fun y hy => by have := hmem y hy; omega), Option.bind_some]
      exact J2' _ _ _ _ _ hrW hmem
theorem total_f {n : Nat} (hn : 2200 ≤ n) (k l w b a v : Int) (s : List Int) (h : List S50) (t : Int) (hh : h.length ≤ 900) : exact_Total.f n k l w b a v s h t = some (if mayF k l w b a v s h && timeF t then cnt (since (mx t a - w) h) else 0) := by
  obtain ⟨n, rfl⟩ : ∃ m, n = m + 1 := ⟨n - 1, by omega⟩
  unfold exact_Total.f
  rw [may_f (by omega) _ _ _ _ _ _ _ _ (by omega), Option.bind_some, time_f]
  cases hm : mayF k l w b a v s h
  · simp [exact_Total.j0]
  cases ht : timeF t
  · simp [exact_Total.j0]
  obtain ⟨hk, l0, l1, w0, w1, a0, a1, hv, hs, ho, hc⟩ := may_is hm
  have tt := time_is.1 ht
  have mm := mx_le t a
  have hW := okL_W l1 ho (by omega)
  simp only [if_true, Option.bind_some, Bool.not_true, Bool.and_self, exact_Total.j0, Bool.false_eq_true, if_false]
  rw [since_f (by omega) k l w b (by omega) _ (by omega), Option.bind_some, count_f (by omega) (okW_since hW), Option.bind_some]
def ends (k l w b a v : Int) (s : List Int) (h : List S50) : Int := if mayF k l w b a v s h then waitU w 0 (cnt h) a h else 0
theorem waitU_bd {w most : Int} (hw : 0 ≤ w) : ∀ (h : List S50) (n u : Int), (0 ≤ u ∧ u ≤ 1099512676352) → (∀ x ∈ h, 0 ≤ x.f0 ∧ x.f0 + w ≤ 1099512676352) → 0 ≤ waitU w most n u h ∧ waitU w most n u h ≤ 1099512676352 := by
  intro h
  induction h with
  | nil => intro n u hu _; exact hu
  | cons x t ih =>
    intro n u hu hx
    simp only [waitU]
    split
    · exact hu
    · have := hx x (by simp)
      exact ih _ _ (by omega) (fun y hy => hx y (by simp [hy]))
theorem ends_f {n : Nat} (hn : 2200 ≤ n) (k l w b a v : Int) (s : List Int) (h : List S50) (hh : h.length ≤ 900) : exact_Ends.f n k l w b a v s h = some (ends k l w b a v s h) := by
  unfold exact_Ends.f ends
  rw [may_f (by omega) _ _ _ _ _ _ _ _ (by omega), Option.bind_some]
  cases hm : mayF k l w b a v s h
  · simp
  obtain ⟨hk, l0, l1, w0, w1, a0, a1, hv, hs, ho, hc⟩ := may_is hm
  have hW := okL_W l1 ho (by omega)
  have hmem : ∀ y ∈ h, 0 ≤ y.f0 ∧ y.f0 ≤ 1099511627776 := fun y hy => by
    have q := okL_mem ho y hy
    have := mx_le (-1) (a - w)
    omega
  have wb := waitU_bd (w := w) (most := 0) (by omega) h (cnt h) a (by omega) (fun y hy => by have := hmem y hy; omega)
  simp only [if_true]
  rw [wait_f (by omega) hW k l w b a 0 (by omega) w1 a0 a1 hmem, Option.bind_some, show a + (waitU w 0 (cnt h) a h - a) = waitU w 0 (cnt h) a h by omega, wr (by omega) (by omega)]
end Go.Proofs.Ytempbjcmhillgaa.La
