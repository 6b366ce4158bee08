/- The statement RobinWell: whatever the input, the law's function returns true and leaves its arguments as they were. No further condition. -/
import Derived.Test.YtonafabgbkohlaaQ17
import Derived.Test.YtonafabgbkohlaaQ18
import Derived.IntWalk
import Derived.Test.YtonafabgbkohlaaQ9
import Derived.Test.YtonafabgbkohlaaQ16
import Derived.Test.YtonafabgbkohlaaQ10
import Derived.Test.YtonafabgbkohlaaQ0
import Derived.RegionTactic
import Derived.ChangeAlike
import Derived.Deep.RegionWith
import Derived.Test.YtonafabgbkohlaaQ30
import Derived.Test.YtonafabgbkohlaaQ32
import Derived.Test.YtonafabgbkohlaaQ2
import Derived.Test.YtonafabgbkohlaaQ21
import Derived.Test.YtonafabgbkohlaaQ27
import Derived.Test.YtonafabgbkohlaaQ14
import Derived.Test.YtonafabgbkohlaaQ13
import Derived.Sort.Walk0
import Derived.Laws.Strings
import Derived.Test.YtonafabgbkohlaaQ19
import Derived.Test.YtonafabgbkohlaaQ12
import Derived.Test.YtonafabgbkohlaaWFoot
import Derived.Deep.Slices
import Derived.OpenShut
import Derived.SizedLaws
import Derived.WideShapes
import Derived.Test.YtonafabgbkohlaaRows
import Derived.WalkKit
import Derived.ProofKit
import Derived.ShutString
import Derived.ChangeOld
import Derived.Below
namespace Go.Proofs.Ytonafabgbkohlaa.La
open Go.RowKit Go.Proofs.YtonafabgbkohlaaW.PrintWords Go.Proofs.YtonafabgbkohlaaW.PrintLast Go.Proofs.YtonafabgbkohlaaW.PrintMore Go.Proofs.Ytonafabgbkohlaa.Q
set_option linter.unusedSimpArgs false
set_option linter.unusedVariables false
abbrev Sl := S52
def sl (l : List Sl) (i : Nat) : Sl := rd_T52 l (i : Int)
theorem sl_set {l : List Sl} {i : Nat} (h : i < l.length) (s : Sl) (j : Nat) : sl (l.set i s) j = if i = j then s else sl l j := by
  unfold sl rd_T52
  rw [Int.toNat_natCast, List.getD_eq_getElem?_getD, List.getD_eq_getElem?_getD, List.getElem?_set]
  by_cases e : i = j
  · subst e; simp [h]
  · simp [e]
theorem sl_self {l : List Sl} {i : Nat} (h : i < l.length) (s : Sl) : sl (l.set i s) i = s := by rw [sl_set h, if_pos rfl]
theorem sl_ne {l : List Sl} {i j : Nat} (h : i < l.length) (s : Sl) (e : i ≠ j) : sl (l.set i s) j = sl l j := by rw [sl_set h, if_neg e]
/-! Places in a ring. -/
theorem step_mod {h d n : Nat} : (h + (d + 1)) % n = ((h + d) % n + 1) % n := by rw [Nat.mod_add_mod, Nat.add_assoc]
theorem add_ne {a e n : Nat} (h1 : a < n) (h2 : 0 < e) (h3 : e < n) : (a + e) % n ≠ a := by
  intro q
  by_cases c : a + e < n
  · rw [Nat.mod_eq_of_lt c] at q; omega
  · rw [Nat.mod_eq_sub_mod (by omega), Nat.mod_eq_of_lt (by omega)] at q; omega
theorem mod_inj {h d D n : Nat} (h0 : 0 < n) (h1 : d < D) (h2 : D < n) : (h + d) % n ≠ (h + D) % n := by
  intro q
  have := add_ne (a := (h + d) % n) (e := D - d) (n := n) (Nat.mod_lt _ h0) (by omega) (by omega)
  rw [Nat.mod_add_mod, show h + d + (D - d) = h + D by omega] at this
  exact this q.symm
theorem nx_inj {i j n : Nat} (hi : i < n) (hj : j < n) (h : (i + 1) % n = (j + 1) % n) : i = j := by
  by_cases a : i + 1 < n
  · rw [Nat.mod_eq_of_lt a] at h
    by_cases c : j + 1 < n
    · rw [Nat.mod_eq_of_lt c] at h; omega
    · rw [show j + 1 = n by omega, Nat.mod_self] at h; omega
  · rw [show i + 1 = n by omega, Nat.mod_self] at h
    by_cases c : j + 1 < n
    · rw [Nat.mod_eq_of_lt c] at h; omega
    · omega
/-- Keys stand where their homes and dists say; none is further from home than the one ahead by more than one. -/
structure Inv (hm : ByteArray → Nat) (l : List Sl) : Prop where
  pos : ∀ i, i < l.length → (sl l i).f0 = true → ∃ d : Nat, (sl l i).f3 = (d : Int) ∧ d < l.length ∧ (hm (sl l i).f1 + d) % l.length = i
  prev : ∀ i, i < l.length → (sl l ((i + 1) % l.length)).f0 = true → 0 < (sl l ((i + 1) % l.length)).f3 → (sl l i).f0 = true ∧ (sl l ((i + 1) % l.length)).f3 ≤ (sl l i).f3 + 1
  uniq : ∀ i j, i < l.length → j < l.length → (sl l i).f0 = true → (sl l j).f0 = true → (sl l i).f1 = (sl l j).f1 → i = j
  zero : ∀ i, i < l.length → (sl l i).f0 = false → sl l i = zeroS
/-- Back from a key to its home all is used, and far enough from home. -/
theorem back {l : List Sl} (hn : 0 < l.length) (prev : ∀ i, i < l.length → (sl l ((i + 1) % l.length)).f0 = true → 0 < (sl l ((i + 1) % l.length)).f3 → (sl l i).f0 = true ∧ (sl l ((i + 1) % l.length)).f3 ≤ (sl l i).f3 + 1) (h D : Nat) (hu : (sl l ((h + D) % l.length)).f0 = true) (hd : (D : Int) ≤ (sl l ((h + D) % l.length)).f3) : ∀ e, e ≤ D → (sl l ((h + (D - e)) % l.length)).f0 = true ∧ ((D - e : Nat) : Int) ≤ (sl l ((h + (D - e)) % l.length)).f3
  | 0, _ => ⟨hu, hd⟩
  | e + 1, he => by
    obtain ⟨i1, i2⟩ := back hn prev h D hu hd e (by omega)
    rw [show D - e = (D - (e + 1)) + 1 by omega, step_mod] at i1 i2
    obtain ⟨p1, p2⟩ := prev _ (Nat.mod_lt _ hn) i1 (by omega)
    exact ⟨p1, by omega⟩
theorem findL_some {l : List Sl} {key : ByteArray} {h : Nat} : ∀ {r d i : Nat}, findL l key h r d = some i → (sl l i).f0 = true ∧ (sl l i).f1 = key
  | 0, d, i, e => by simp [findL] at e
  | r + 1, d, i, e => by
    rw [findL] at e
    split at e
    · cases e
    · rename_i h1
      split at e
      · cases e
      · split at e
        · rename_i h3
          obtain rfl := Option.some.inj e
          exact ⟨by rw [Bool.not_eq_false] at h1; exact h1, h3⟩
        · exact findL_some e
theorem findL_at {hm : ByteArray → Nat} {l : List Sl} (hn : 0 < l.length) (I : Inv hm l) {key : ByteArray} {D : Nat} (hD : D < l.length) (hu : (sl l ((hm key + D) % l.length)).f0 = true) (hk : (sl l ((hm key + D) % l.length)).f1 = key) (hd : (sl l ((hm key + D) % l.length)).f3 = (D : Int)) : ∀ (e d r : Nat), D - d = e → d ≤ D → D < d + r → findL l key (hm key) r d = some ((hm key + D) % l.length)
  | _, _, 0, _, h2, h3 => by omega
  | 0, d, r + 1, h1, h2, h3 => by
    obtain rfl : d = D := by omega
    rw [findL]
    rw [if_neg (by show ¬ (sl l _).f0 = false; rw [hu]; simp), if_neg (by show ¬ (sl l _).f3 < _; rw [hd]; omega)]
    exact if_pos hk
  | e + 1, d, r + 1, h1, h2, h3 => by
    obtain ⟨b1, b2⟩ := back hn I.prev (hm key) D hu (by omega) (D - d) (by omega)
    rw [show D - (D - d) = d by omega] at b1 b2
    have hne : ¬ (sl l ((hm key + d) % l.length)).f1 = key := fun q => mod_inj hn (show d < D by omega) hD (I.uniq _ _ (Nat.mod_lt _ hn) (Nat.mod_lt _ hn) b1 hu (q.trans hk.symm))
    rw [findL]
    rw [if_neg (by show ¬ (sl l _).f0 = false; rw [b1]; simp), if_neg (by show ¬ (sl l _).f3 < _; omega)]
    refine (if_neg hne).trans ?_
    exact findL_at hn I hD hu hk hd e (d + 1) r (by omega) (by omega) (by omega)
/-- find finds just the slot of the key. -/
theorem find_iff {hm : ByteArray → Nat} {l : List Sl} (hn : 0 < l.length) (I : Inv hm l) {key : ByteArray} {i : Nat} : findL l key (hm key) l.length 0 = some i ↔ i < l.length ∧ (sl l i).f0 = true ∧ (sl l i).f1 = key := by
  constructor
  · intro h
    obtain ⟨h1, h2⟩ := findL_some h
    exact ⟨findL_lt hn h, h1, h2⟩
  · rintro ⟨hi, hu, hk⟩
    obtain ⟨D, d1, d2, d3⟩ := I.pos i hi hu
    rw [hk] at d3
    subst d3
    exact findL_at hn I d2 hu hk d1 D 0 l.length rfl (Nat.zero_le _) (by omega)
/-! How many are used; sums of dists. -/
def bn (s : Sl) : Nat := if s.f0 = true then 1 else 0
def cnt : List Sl → Nat
  | [] => 0
  | s :: l => bn s + cnt l
theorem sl_cons (s : Sl) (l : List Sl) (i : Nat) : sl (s :: l) (i + 1) = sl l i := by unfold sl rd_T52; rw [Int.toNat_natCast, Int.toNat_natCast]; rfl
theorem sl_zero (s : Sl) (l : List Sl) : sl (s :: l) 0 = s := rfl
theorem cnt_set : ∀ (l : List Sl) (i : Nat) (s : Sl), i < l.length → cnt (l.set i s) + bn (sl l i) = cnt l + bn s
  | [], _, _, h => by simp at h
  | x :: l, 0, s, _ => by rw [sl_zero]; simp only [List.set_cons_zero, cnt]; omega
  | x :: l, i + 1, s, h => by
    have := cnt_set l i s (by simpa using h)
    rw [sl_cons]
    simp only [List.set_cons_succ, cnt]
    omega
theorem cnt_le : ∀ l : List Sl, cnt l ≤ l.length
  | [] => Nat.le_refl _
  | s :: l => by have := cnt_le l; simp only [cnt, List.length_cons, bn]; split <;> omega
theorem cnt_free : ∀ l : List Sl, cnt l < l.length → ∃ i, i < l.length ∧ (sl l i).f0 = false
  | [], h => by simp [cnt] at h
  | s :: l, h => by
    by_cases e : s.f0 = true
    · obtain ⟨i, h1, h2⟩ := cnt_free l (by simp only [cnt, bn, if_pos e, List.length_cons] at h; omega)
      exact ⟨i + 1, by simpa using h1, by rw [sl_cons]; exact h2⟩
    · exact ⟨0, by simp, by rw [sl_zero]; simpa using e⟩
theorem cnt_full : ∀ l : List Sl, cnt l = l.length → ∀ i, i < l.length → (sl l i).f0 = true
  | [], _, _, h => by simp at h
  | s :: l, h, i, hi => by
    have := cnt_le l
    simp only [cnt, bn, List.length_cons] at h
    split at h
    · rename_i hs
      cases i with
      | zero => rw [sl_zero]; exact hs
      | succ i => rw [sl_cons]; exact cnt_full l (by omega) i (by simpa using hi)
    · omega
def sumD : List Sl → Nat
  | [] => 0
  | s :: l => s.f3.toNat + sumD l
theorem sumD_set : ∀ (l : List Sl) (i : Nat) (s : Sl), i < l.length → sumD (l.set i s) + (sl l i).f3.toNat = sumD l + s.f3.toNat
  | [], _, _, h => by simp at h
  | x :: l, 0, s, _ => by rw [sl_zero]; simp only [List.set_cons_zero, sumD]; omega
  | x :: l, i + 1, s, h => by
    have := sumD_set l i s (by simpa using h)
    rw [sl_cons]
    simp only [List.set_cons_succ, sumD]
    omega
theorem sumD_at : ∀ (l : List Sl) (i : Nat), i < l.length → (sl l i).f3.toNat ≤ sumD l
  | [], _, h => by simp at h
  | x :: l, 0, _ => by rw [sl_zero]; simp only [sumD]; omega
  | x :: l, i + 1, h => by
    have := sumD_at l i (by simpa using h)
    rw [sl_cons]; simp only [sumD]; omega
end Go.Proofs.Ytonafabgbkohlaa.La


namespace Go.Proofs.Ytonafabgbkohlaa.La
open Go.RowKit Go.Proofs.YtonafabgbkohlaaW.PrintWords Go.Proofs.YtonafabgbkohlaaW.PrintLast Go.Proofs.YtonafabgbkohlaaW.PrintMore Go.Proofs.Ytonafabgbkohlaa.Q
set_option linter.unusedSimpArgs false
set_option linter.unusedVariables false
theorem wr {x : Int} (h0 : -9223372036854775808 ≤ x) (h1 : x < 9223372036854775808) : wrap64 x = x := by unfold wrap64; omega
/-- A key stands in a table, with a value. -/
def Has (l : List Sl) (k : ByteArray) (v : Int) : Prop := ∃ i, i < l.length ∧ (sl l i).f0 = true ∧ (sl l i).f1 = k ∧ (sl l i).f2 = v
theorem has_set {l : List Sl} {i : Nat} (hi : i < l.length) {x : Sl} (hx : x.f0 = true) (k : ByteArray) (v : Int) : Has (l.set i x) k v ↔ (x.f1 = k ∧ x.f2 = v) ∨ ∃ j, j < l.length ∧ j ≠ i ∧ (sl l j).f0 = true ∧ (sl l j).f1 = k ∧ (sl l j).f2 = v := by
  constructor
  · rintro ⟨j, h1, h2, h3, h4⟩
    rw [List.length_set] at h1
    by_cases e : i = j
    · subst e; rw [sl_self hi] at h3 h4; exact Or.inl ⟨h3, h4⟩
    · rw [sl_ne hi _ e] at h2 h3 h4; exact Or.inr ⟨j, h1, fun q => e q.symm, h2, h3, h4⟩
  · rintro (⟨h1, h2⟩ | ⟨j, h1, h2, h3, h4, h5⟩)
    · exact ⟨i, by rw [List.length_set]; exact hi, by rw [sl_self hi]; exact hx, by rw [sl_self hi]; exact h1, by rw [sl_self hi]; exact h2⟩
    · have e : i ≠ j := fun q => h2 q.symm
      exact ⟨j, by rw [List.length_set]; exact h1, by rw [sl_ne hi _ e]; exact h3, by rw [sl_ne hi _ e]; exact h4, by rw [sl_ne hi _ e]; exact h5⟩
theorem inv_put {hm : ByteArray → Nat} {l : List Sl} {i d : Nat} {x : Sl} (h2 : 2 ≤ l.length) (hi : i < l.length) (I : Inv hm l) (xu : x.f0 = true) (xd : x.f3 = (d : Int)) (dn : d < l.length) (xh : (hm x.f1 + d) % l.length = i)
    (xp : ∀ p, p < l.length → (p + 1) % l.length = i → 0 < d → (sl l p).f0 = true ∧ (d : Int) ≤ (sl l p).f3 + 1) (xn : ∀ j, j < l.length → (sl l j).f0 = true → (sl l j).f1 ≠ x.f1)
    (nx : (sl l ((i + 1) % l.length)).f0 = true → 0 < (sl l ((i + 1) % l.length)).f3 → (sl l ((i + 1) % l.length)).f3 ≤ x.f3 + 1) : Inv hm (l.set i x) := by
  have hne : ∀ p, p < l.length → (p + 1) % l.length ≠ p := fun p hp => add_ne hp (by omega) (by omega)
  refine ⟨?_, ?_, ?_, ?_⟩
  · intro j hj hu
    rw [List.length_set] at hj ⊢
    by_cases e : i = j
    · subst e; rw [sl_self hi]; exact ⟨d, xd, dn, xh⟩
    · rw [sl_ne hi _ e] at hu ⊢; exact I.pos j hj hu
  · intro j hj
    rw [List.length_set] at hj ⊢
    by_cases e : i = (j + 1) % l.length
    · rw [← e, sl_self hi, sl_ne hi _ (fun q => hne j hj (by rw [← e, q]))]
      intro _ h0
      rw [xd] at h0 ⊢
      exact xp j hj e.symm (by omega)
    · rw [sl_ne hi _ e]
      by_cases e2 : i = j
      · subst e2
        rw [sl_self hi]
        intro h3 h4
        exact ⟨xu, nx h3 h4⟩
      · rw [sl_ne hi _ e2]; exact I.prev j hj
  · intro a c ha hc
    rw [List.length_set] at ha hc
    by_cases e : i = a
    · subst e
      by_cases e2 : i = c
      · intro _ _ _; exact e2
      · rw [sl_self hi, sl_ne hi _ e2]
        intro _ h3 h4; exact absurd h4.symm (xn c hc h3)
    · by_cases e2 : i = c
      · subst e2
        rw [sl_self hi, sl_ne hi _ e]
        intro h3 _ h4; exact absurd h4 (xn a ha h3)
      · rw [sl_ne hi _ e, sl_ne hi _ e2]; exact I.uniq a c ha hc
  · intro j hj
    rw [List.length_set] at hj
    by_cases e : i = j
    · subst e; rw [sl_self hi, xu]; intro h; cases h
    · rw [sl_ne hi _ e]; exact I.zero j hj
theorem putL_ok (hm : ByteArray → Nat) : ∀ (m : Nat) (l : List Sl) (i u d : Nat) (x : Sl), 2 ≤ l.length → l.length ≤ 100000 → i < l.length → u < l.length → (sl l u).f0 = false → (i + m) % l.length = u → d + m < l.length → Inv hm l → x.f0 = true → x.f3 = (d : Int) → (hm x.f1 + d) % l.length = i →
    (∀ p, p < l.length → (p + 1) % l.length = i → 0 < d → (sl l p).f0 = true ∧ (d : Int) ≤ (sl l p).f3 + 1) → (∀ j, j < l.length → (sl l j).f0 = true → (sl l j).f1 ≠ x.f1) → ∀ k, m + 1 ≤ k →
    ∃ l', putL k l i x = some l' ∧ Inv hm l' ∧ l'.length = l.length ∧ cnt l' = cnt l + 1 ∧ ∀ key v, Has l' key v ↔ Has l key v ∨ (x.f1 = key ∧ x.f2 = v) := by
  intro m
  induction m with
  | zero =>
    intro l i u d x h2 hN hi hu huf hiu hdm I xu xd xh xp xn k hk
    obtain ⟨k, rfl⟩ : ∃ q, k = q + 1 := ⟨k - 1, by omega⟩
    rw [Nat.add_zero, Nat.mod_eq_of_lt hi] at hiu
    subst hiu
    refine ⟨l.set i x, ?_, ?_, List.length_set .., ?_, ?_⟩
    · rw [putL]; exact if_pos huf
    · refine inv_put h2 hi I xu xd (by omega) xh xp xn (fun h3 h4 => ?_)
      have := (I.prev i hi h3 h4).1
      rw [huf] at this; cases this
    · have := cnt_set l i x hi
      simp only [bn, huf, xu] at this
      simpa using this
    · intro key v
      rw [has_set hi xu]
      constructor
      · rintro (h | ⟨j, h1, h3, h4, h5, h6⟩)
        · exact Or.inr h
        · exact Or.inl ⟨j, h1, h4, h5, h6⟩
      · rintro (⟨j, h1, h4, h5, h6⟩ | h)
        · exact Or.inr ⟨j, h1, (fun e => by rw [e, huf] at h4; cases h4), h4, h5, h6⟩
        · exact Or.inl h
  | succ m ih =>
    intro l i u d x h2 hN hi hu huf hiu hdm I xu xd xh xp xn k hk
    obtain ⟨k, rfl⟩ : ∃ q, k = q + 1 := ⟨k - 1, by omega⟩
    by_cases hf : (sl l i).f0 = false
    · refine ⟨l.set i x, ?_, ?_, List.length_set .., ?_, ?_⟩
      · rw [putL]; exact if_pos hf
      · refine inv_put h2 hi I xu xd (by omega) xh xp xn (fun h3 h4 => ?_)
        have := (I.prev i hi h3 h4).1
        rw [hf] at this; cases this
      · have := cnt_set l i x hi
        simp only [bn, hf, xu] at this
        simpa using this
      · intro key v
        rw [has_set hi xu]
        constructor
        · rintro (h | ⟨j, h1, h3, h4, h5, h6⟩)
          · exact Or.inr h
          · exact Or.inl ⟨j, h1, h4, h5, h6⟩
        · rintro (⟨j, h1, h4, h5, h6⟩ | h)
          · exact Or.inr ⟨j, h1, (fun e => by rw [e, hf] at h4; cases h4), h4, h5, h6⟩
          · exact Or.inl h
    have hfu : (sl l i).f0 = true := by rw [Bool.not_eq_false] at hf; exact hf
    have hiu2 : i ≠ u := fun e => by rw [e, huf] at hfu; cases hfu
    have hi2 : (i + 1) % l.length < l.length := Nat.mod_lt _ (by omega)
    have hst : ((i + 1) % l.length + m) % l.length = u := by rw [Nat.mod_add_mod, ← hiu]; congr 1; omega
    obtain ⟨ds, s1, s2, s3⟩ := I.pos i hi hfu
    by_cases hlt : (sl l i).f3 < x.f3
    · have e : putL (k + 1) l i x = putL k (l.set i x) ((i + 1) % l.length) ⟨(sl l i).f0, (sl l i).f1, (sl l i).f2, wrap64 ((sl l i).f3 + 1)⟩ := by
        rw [putL]; exact (if_neg hf).trans (if_pos hlt)
      have I1 : Inv hm (l.set i x) := inv_put h2 hi I xu xd (by omega) xh xp xn (fun h3 h4 => by
        have := (I.prev i hi h3 h4).2; omega)
      have hw : wrap64 ((sl l i).f3 + 1) = ((ds + 1 : Nat) : Int) := by rw [wr (by omega) (by omega)]; omega
      obtain ⟨l', r1, r2, r3, r4, r5⟩ := ih (l.set i x) ((i + 1) % l.length) u (ds + 1) ⟨(sl l i).f0, (sl l i).f1, (sl l i).f2, wrap64 ((sl l i).f3 + 1)⟩ (by rw [List.length_set]; exact h2) (by rw [List.length_set]; exact hN) (by rw [List.length_set]; exact hi2) (by rw [List.length_set]; exact hu) (by rw [sl_ne hi _ hiu2]; exact huf) (by rw [List.length_set]; exact hst) (by rw [List.length_set]; omega) I1 hfu hw (by rw [List.length_set]; show (hm (sl l i).f1 + (ds + 1)) % l.length = _; rw [step_mod, s3])
        (by
          rw [List.length_set]
          intro p hp hpe _
          obtain rfl := nx_inj hp hi hpe
          rw [sl_self hi]
          exact ⟨xu, by rw [xd]; omega⟩)
        (by
          rw [List.length_set]
          intro j hj hju
          by_cases e2 : i = j
          · subst e2; rw [sl_self hi]; exact fun q => xn i hi hfu q.symm
          · rw [sl_ne hi _ e2] at hju ⊢
            exact fun q => e2 (I.uniq i j hi hj hfu hju q.symm)) k (by omega)
      refine ⟨l', e.trans r1, r2, r3.trans (List.length_set ..), ?_, ?_⟩
      · have := cnt_set l i x hi
        simp only [bn, hfu, xu, if_true] at this
        omega
      · intro key v
        rw [r5, has_set hi xu]
        constructor
        · rintro ((h | ⟨j, h1, h3, h4, h5, h6⟩) | h)
          · exact Or.inr h
          · exact Or.inl ⟨j, h1, h4, h5, h6⟩
          · exact Or.inl ⟨i, hi, hfu, h.1, h.2⟩
        · rintro (⟨j, h1, h4, h5, h6⟩ | h)
          · by_cases e2 : j = i
            · subst e2; exact Or.inr ⟨h5, h6⟩
            · exact Or.inl (Or.inr ⟨j, h1, e2, h4, h5, h6⟩)
          · exact Or.inl (Or.inl h)
    · have e : putL (k + 1) l i x = putL k l ((i + 1) % l.length) ⟨x.f0, x.f1, x.f2, wrap64 (x.f3 + 1)⟩ := by
        rw [putL]; exact (if_neg hf).trans (if_neg hlt)
      have hw : wrap64 (x.f3 + 1) = ((d + 1 : Nat) : Int) := by rw [wr (by omega) (by omega)]; omega
      obtain ⟨l', r1, r2, r3, r4, r5⟩ := ih l ((i + 1) % l.length) u (d + 1) ⟨x.f0, x.f1, x.f2, wrap64 (x.f3 + 1)⟩ h2 hN hi2 hu huf hst (by omega) I xu hw (by show (hm x.f1 + (d + 1)) % l.length = _; rw [step_mod, xh])
        (by
          intro p hp hpe _
          obtain rfl := nx_inj hp hi hpe
          exact ⟨hfu, by omega⟩) xn k (by omega)
      exact ⟨l', e.trans r1, r2, r3, r4, r5⟩
/-- Well but for a hole, where what stood is still to be seen. -/
structure InvH (hm : ByteArray → Nat) (l : List Sl) (i : Nat) : Prop where
  hi : i < l.length
  used : (sl l i).f0 = true
  pos : ∀ i, i < l.length → (sl l i).f0 = true → ∃ d : Nat, (sl l i).f3 = (d : Int) ∧ d < l.length ∧ (hm (sl l i).f1 + d) % l.length = i
  prev : ∀ i, i < l.length → (sl l ((i + 1) % l.length)).f0 = true → 0 < (sl l ((i + 1) % l.length)).f3 → (sl l i).f0 = true ∧ (sl l ((i + 1) % l.length)).f3 ≤ (sl l i).f3 + 1
  uniq : ∀ a c, a < l.length → c < l.length → a ≠ i → c ≠ i → (sl l a).f0 = true → (sl l c).f0 = true → (sl l a).f1 = (sl l c).f1 → a = c
  zero : ∀ i, i < l.length → (sl l i).f0 = false → sl l i = zeroS
theorem Inv.hole {hm : ByteArray → Nat} {l : List Sl} {i : Nat} (I : Inv hm l) (hi : i < l.length) (hu : (sl l i).f0 = true) : InvH hm l i := ⟨hi, hu, I.pos, I.prev, fun a c ha hc _ _ => I.uniq a c ha hc, I.zero⟩
def HasX (l : List Sl) (i : Nat) (k : ByteArray) (v : Int) : Prop := ∃ j, j < l.length ∧ j ≠ i ∧ (sl l j).f0 = true ∧ (sl l j).f1 = k ∧ (sl l j).f2 = v
theorem delL_ok (hm : ByteArray → Nat) : ∀ (T : Nat) (l : List Sl) (i : Nat), 2 ≤ l.length → l.length ≤ 100000 → InvH hm l i → sumD l = T + (sl l i).f3.toNat → ∀ k, T + 1 ≤ k →
    ∃ m j, delL k l i = some (m, j) ∧ InvH hm m j ∧ m.length = l.length ∧ cnt m = cnt l ∧ ((sl m ((j + 1) % m.length)).f0 = false ∨ (sl m ((j + 1) % m.length)).f3 = 0) ∧ ∀ key v, HasX m j key v ↔ HasX l i key v := by
  intro T
  induction T with
  | zero =>
    intro l i h2 hN I hT k hk
    obtain ⟨k, rfl⟩ : ∃ q, k = q + 1 := ⟨k - 1, by omega⟩
    have hj : (i + 1) % l.length < l.length := Nat.mod_lt _ (by omega)
    have hne : (i + 1) % l.length ≠ i := add_ne I.hi (by omega) (by omega)
    have hz : (sl l ((i + 1) % l.length)).f0 = false ∨ (sl l ((i + 1) % l.length)).f3 = 0 := by
      by_cases hf : (sl l ((i + 1) % l.length)).f0 = false
      · exact Or.inl hf
      · rw [Bool.not_eq_false] at hf
        obtain ⟨d, d1, _, _⟩ := I.pos _ hj hf
        have q := sumD_set l i zeroS I.hi
        have q2 := sumD_at (l.set i zeroS) ((i + 1) % l.length) (by rw [List.length_set]; exact hj)
        rw [sl_ne I.hi _ (fun e => hne e.symm)] at q2
        have q3 : zeroS.f3.toNat = 0 := rfl
        right; omega
    refine ⟨l, i, ?_, I, rfl, rfl, hz, fun _ _ => Iff.rfl⟩
    rw [delL]
    rcases hz with hz | hz
    · exact if_pos hz
    · by_cases hf : (sl l ((i + 1) % l.length)).f0 = false
      · exact if_pos hf
      · exact (if_neg hf).trans (if_pos hz)
  | succ T ih =>
    intro l i h2 hN I hT k hk
    obtain ⟨k, rfl⟩ : ∃ q, k = q + 1 := ⟨k - 1, by omega⟩
    have hi := I.hi
    have hj : (i + 1) % l.length < l.length := Nat.mod_lt _ (by omega)
    have hne : (i + 1) % l.length ≠ i := add_ne hi (by omega) (by omega)
    have hne2 : i ≠ (i + 1) % l.length := fun e => hne e.symm
    by_cases hf : (sl l ((i + 1) % l.length)).f0 = false
    · exact ⟨l, i, by rw [delL]; exact if_pos hf, I, rfl, rfl, Or.inl hf, fun _ _ => Iff.rfl⟩
    by_cases hz : (sl l ((i + 1) % l.length)).f3 = 0
    · exact ⟨l, i, by rw [delL]; exact (if_neg hf).trans (if_pos hz), I, rfl, rfl, Or.inr hz, fun _ _ => Iff.rfl⟩
    have hfu : (sl l ((i + 1) % l.length)).f0 = true := by rw [Bool.not_eq_false] at hf; exact hf
    obtain ⟨d, d1, d2, d3⟩ := I.pos _ hj hfu
    obtain ⟨di, e1, e2, e3⟩ := I.pos i hi I.used
    obtain ⟨d0, rfl⟩ : ∃ q, d = q + 1 := ⟨d - 1, by omega⟩
    have hprev := (I.prev i hi hfu (by omega)).2
    have hw : wrap64 ((sl l ((i + 1) % l.length)).f3 - 1) = (d0 : Int) := by rw [wr (by omega) (by omega)]; omega
    have hd0 : (hm (sl l ((i + 1) % l.length)).f1 + d0) % l.length = i := nx_inj (Nat.mod_lt _ (by omega)) hi (by rw [← step_mod]; exact d3)
    have e : delL (k + 1) l i = delL k (l.set i ⟨(sl l ((i + 1) % l.length)).f0, (sl l ((i + 1) % l.length)).f1, (sl l ((i + 1) % l.length)).f2, wrap64 ((sl l ((i + 1) % l.length)).f3 - 1)⟩) ((i + 1) % l.length) := by
      rw [delL]; exact (if_neg hf).trans (if_neg hz)
    rw [hw] at e
    obtain ⟨x, hx⟩ : ∃ x : Sl, x = ⟨(sl l ((i + 1) % l.length)).f0, (sl l ((i + 1) % l.length)).f1, (sl l ((i + 1) % l.length)).f2, (d0 : Int)⟩ := ⟨_, rfl⟩
    have x0 : x.f0 = true := by rw [hx]; exact hfu
    have x1 : x.f1 = (sl l ((i + 1) % l.length)).f1 := by rw [hx]
    have x2 : x.f2 = (sl l ((i + 1) % l.length)).f2 := by rw [hx]
    have x3 : x.f3 = (d0 : Int) := by rw [hx]
    rw [← hx] at e
    clear hx hw
    have I1 : InvH hm (l.set i x) ((i + 1) % l.length) := by
      refine ⟨by rw [List.length_set]; exact hj, by rw [sl_ne hi _ hne2]; exact hfu, ?_, ?_, ?_, ?_⟩
      · intro a ha hu
        rw [List.length_set] at ha ⊢
        by_cases c : i = a
        · subst c; rw [sl_self hi]; exact ⟨d0, x3, by omega, by rw [x1]; exact hd0⟩
        · rw [sl_ne hi _ c] at hu ⊢; exact I.pos a ha hu
      · intro p hp
        rw [List.length_set] at hp ⊢
        have hpn : (p + 1) % l.length ≠ p := add_ne hp (by omega) (by omega)
        by_cases c : i = (p + 1) % l.length
        · rw [← c, sl_self hi, sl_ne hi _ (fun q => hpn (by rw [← c, q]))]
          intro _ h0
          have := I.prev p hp (by rw [← c]; exact I.used) (by rw [← c]; omega)
          rw [← c] at this
          exact ⟨this.1, by omega⟩
        · rw [sl_ne hi _ c]
          by_cases c2 : i = p
          · subst c2; rw [sl_self hi]; intro _ _; exact ⟨x0, by omega⟩
          · rw [sl_ne hi _ c2]; exact I.prev p hp
      · intro a c ha hc na nc
        rw [List.length_set] at ha hc
        by_cases q : i = a
        · subst q
          by_cases q2 : i = c
          · intro _ _ _; exact q2
          · rw [sl_self hi, sl_ne hi _ q2, x1]
            intro _ h3 h4
            exact absurd (I.uniq c _ hc hj (fun z => q2 z.symm) hne h3 hfu h4.symm) nc
        · by_cases q2 : i = c
          · subst q2
            rw [sl_self hi, sl_ne hi _ q, x1]
            intro h3 _ h4
            exact absurd (I.uniq a _ ha hj (fun z => q z.symm) hne h3 hfu h4) na
          · rw [sl_ne hi _ q, sl_ne hi _ q2]
            exact I.uniq a c ha hc (fun z => q z.symm) (fun z => q2 z.symm)
      · intro a ha
        rw [List.length_set] at ha
        by_cases c : i = a
        · subst c; rw [sl_self hi, x0]; intro h; cases h
        · rw [sl_ne hi _ c]; exact I.zero a ha
    have hs := sumD_set l i x hi
    obtain ⟨m, j, r1, r2, r3, r4, r5, r6⟩ := ih (l.set i x) ((i + 1) % l.length) (by rw [List.length_set]; exact h2) (by rw [List.length_set]; exact hN) I1 (by rw [sl_ne hi _ hne2]; rw [x3] at hs; omega) k (by omega)
    refine ⟨m, j, e.trans r1, r2, r3.trans (List.length_set ..), ?_, r5, ?_⟩
    · have := cnt_set l i x hi
      simp only [bn, I.used, x0, if_true] at this
      omega
    · intro key v
      rw [r6]
      constructor
      · rintro ⟨a, a1, a2, a3, a4, a5⟩
        rw [List.length_set] at a1
        by_cases c : i = a
        · subst c
          rw [sl_self hi] at a3 a4 a5
          exact ⟨_, hj, hne, hfu, x1 ▸ a4, x2 ▸ a5⟩
        · rw [sl_ne hi _ c] at a3 a4 a5
          exact ⟨a, a1, fun q => c q.symm, a3, a4, a5⟩
      · rintro ⟨a, a1, a2, a3, a4, a5⟩
        by_cases c : a = (i + 1) % l.length
        · subst c
          exact ⟨i, by rw [List.length_set]; exact hi, hne2, by rw [sl_self hi]; exact x0, by rw [sl_self hi, x1]; exact a4, by rw [sl_self hi, x2]; exact a5⟩
        · have q : i ≠ a := fun q => a2 q.symm
          exact ⟨a, by rw [List.length_set]; exact a1, c, by rw [sl_ne hi _ q]; exact a3, by rw [sl_ne hi _ q]; exact a4, by rw [sl_ne hi _ q]; exact a5⟩
theorem hole_shut {hm : ByteArray → Nat} {l : List Sl} {i : Nat} (h2 : 2 ≤ l.length) (I : InvH hm l i) (hs : (sl l ((i + 1) % l.length)).f0 = false ∨ (sl l ((i + 1) % l.length)).f3 = 0) : Inv hm (l.set i zeroS) ∧ cnt (l.set i zeroS) + 1 = cnt l ∧ ∀ key v, Has (l.set i zeroS) key v ↔ HasX l i key v := by
  have hi := I.hi
  have z0 : zeroS.f0 = false := rfl
  refine ⟨⟨?_, ?_, ?_, ?_⟩, ?_, ?_⟩
  · intro a ha hu
    rw [List.length_set] at ha ⊢
    by_cases c : i = a
    · subst c; rw [sl_self hi, z0] at hu; cases hu
    · rw [sl_ne hi _ c] at hu ⊢; exact I.pos a ha hu
  · intro p hp
    rw [List.length_set] at hp ⊢
    by_cases c : i = (p + 1) % l.length
    · rw [← c, sl_self hi, z0]; intro h; cases h
    · rw [sl_ne hi _ c]
      by_cases c2 : i = p
      · subst c2
        intro h3 h4
        rcases hs with hs | hs
        · rw [hs] at h3; cases h3
        · omega
      · rw [sl_ne hi _ c2]; exact I.prev p hp
  · intro a c ha hc
    rw [List.length_set] at ha hc
    by_cases q : i = a
    · subst q; rw [sl_self hi, z0]; intro h; cases h
    · by_cases q2 : i = c
      · subst q2; rw [sl_self hi, z0]; intro _ h; cases h
      · rw [sl_ne hi _ q, sl_ne hi _ q2]; exact I.uniq a c ha hc (fun z => q z.symm) (fun z => q2 z.symm)
  · intro a ha
    rw [List.length_set] at ha
    by_cases c : i = a
    · subst c; rw [sl_self hi]; intro _; rfl
    · rw [sl_ne hi _ c]; exact I.zero a ha
  · have := cnt_set l i zeroS hi
    simp only [bn, I.used, z0, if_true] at this
    simpa using this
  · intro key v
    constructor
    · rintro ⟨a, a1, a2, a3⟩
      rw [List.length_set] at a1
      by_cases c : i = a
      · subst c; rw [sl_self hi, z0] at a2; cases a2
      · rw [sl_ne hi _ c] at a2 a3; exact ⟨a, a1, fun q => c q.symm, a2, a3⟩
    · rintro ⟨a, a1, a2, a3, a4, a5⟩
      have c : i ≠ a := fun q => a2 q.symm
      exact ⟨a, by rw [List.length_set]; exact a1, by rw [sl_ne hi _ c]; exact a3, by rw [sl_ne hi _ c]; exact a4, by rw [sl_ne hi _ c]; exact a5⟩
end Go.Proofs.Ytonafabgbkohlaa.La


namespace Go.Proofs.Ytonafabgbkohlaa.La
open Go.RowKit Go.Proofs.YtonafabgbkohlaaW.PrintWords Go.Proofs.YtonafabgbkohlaaW.PrintLast Go.Proofs.YtonafabgbkohlaaW.PrintMore Go.Proofs.Ytonafabgbkohlaa.Q
set_option linter.unusedSimpArgs false
set_option linter.unusedVariables false
/-- A table that is well, of 2 to the power of b slots, holds just what f says. -/
structure TF (sd : Int) (b : Nat) (l : List Sl) (us : Int) (f : ByteArray → Option Int) : Prop where
  b0 : 1 ≤ b
  b1 : b ≤ 8
  len : l.length = 2 ^ b
  inv : Inv (homeN sd b) l
  us : us = (cnt l : Int)
  has : ∀ k v, Has l k v ↔ f k = some v
def upd (f : ByteArray → Option Int) (k : ByteArray) (o : Option Int) : ByteArray → Option Int := fun q => if q = k then o else f q
section
variable {sd : Int} {b : Nat} {l : List Sl} {us : Int} {f : ByteArray → Option Int}
theorem TF.sz (h : TF sd b l us f) : 2 ≤ l.length ∧ l.length ≤ 256 := by
  have h1 := Nat.pow_le_pow_right (show 0 < 2 by omega) h.b1
  have h2 := Nat.pow_le_pow_right (show 0 < 2 by omega) h.b0
  rw [h.len]
  simp at h1 h2
  omega
theorem has_fun {hm : ByteArray → Nat} (I : Inv hm l) {k : ByteArray} {v v' : Int} (h : Has l k v) (h' : Has l k v') : v = v' := by
  obtain ⟨i, i1, i2, i3, i4⟩ := h
  obtain ⟨j, j1, j2, j3, j4⟩ := h'
  obtain rfl := I.uniq i j i1 j1 i2 j2 (i3.trans j3.symm)
  exact i4.symm.trans j4
theorem TF.find (h : TF sd b l us f) (key : ByteArray) : (f key = none ∧ findT sd b l key = none) ∨ ∃ i v, f key = some v ∧ findT sd b l key = some i ∧ i < l.length ∧ (sl l i).f0 = true ∧ (sl l i).f1 = key ∧ (sl l i).f2 = v := by
  have hz := h.sz
  have hi := fun i => find_iff (l := l) (by omega) h.inv (key := key) (i := i)
  unfold findT
  cases e : findL l key (homeN sd b key) l.length 0 with
  | none =>
    left
    refine ⟨?_, rfl⟩
    cases e2 : f key with
    | none => rfl
    | some v =>
      obtain ⟨i, i1, i2, i3, i4⟩ := (h.has key v).2 e2
      have := (hi i).2 ⟨i1, i2, i3⟩
      rw [e] at this; cases this
  | some i =>
    right
    obtain ⟨i1, i2, i3⟩ := (hi i).1 e
    exact ⟨i, (sl l i).f2, (h.has key _).1 ⟨i, i1, i2, i3, rfl⟩, rfl, i1, i2, i3, rfl⟩
theorem TF.get (h : TF sd b l us f) (key : ByteArray) : getT sd b l key = match f key with | none => (0, false) | some v => (v, true) := by
  unfold getT
  rcases h.find key with ⟨h1, h2⟩ | ⟨i, v, h1, h2, h3, h4, h5, h6⟩
  · rw [h1, h2]
  · rw [h1, h2]
    show ((sl l i).f2, true) = (v, true)
    rw [h6]
theorem TF.put_bad (h : TF sd b l us f) (k : Nat) {key : ByteArray} (v : Int) (hk : key.size = 0 ∨ key.size > 33) : putT k sd b l us key v = some (l, us, 1) := by
  unfold putT; rw [if_pos hk]
theorem TF.put_old (h : TF sd b l us f) (k : Nat) {key : ByteArray} (v : Int) (hk : 1 ≤ key.size ∧ key.size ≤ 33) {v0 : Int} (hf : f key = some v0) : ∃ l', putT k sd b l us key v = some (l', us, 0) ∧ TF sd b l' us (upd f key (some v)) := by
  rcases h.find key with ⟨h1, h2⟩ | ⟨i, v1, h1, h2, h3, h4, h5, h6⟩
  · rw [hf] at h1; cases h1
  unfold putT
  rw [if_neg (by omega), h2]
  have hz := h.sz
  obtain ⟨x, hx⟩ : ∃ x : Sl, x = ⟨(sl l i).f0, (sl l i).f1, v, (sl l i).f3⟩ := ⟨_, rfl⟩
  refine ⟨l.set i x, by rw [hx]; rfl, ?_⟩
  have x0 : x.f0 = true := by rw [hx]; exact h4
  have x1 : x.f1 = (sl l i).f1 := by rw [hx]
  have x2 : x.f2 = v := by rw [hx]
  have x3 : x.f3 = (sl l i).f3 := by rw [hx]
  clear hx
  have same : ∀ j, (sl (l.set i x) j).f0 = (sl l j).f0 ∧ (sl (l.set i x) j).f1 = (sl l j).f1 ∧ (sl (l.set i x) j).f3 = (sl l j).f3 := by
    intro j
    by_cases e : i = j
    · subst e; rw [sl_self h3]; exact ⟨x0.trans h4.symm, x1, x3⟩
    · rw [sl_ne h3 _ e]; exact ⟨rfl, rfl, rfl⟩
  refine ⟨h.b0, h.b1, (List.length_set ..).trans h.len, ⟨?_, ?_, ?_, ?_⟩, ?_, ?_⟩
  · intro a ha hu
    rw [List.length_set] at ha ⊢
    rw [(same a).1] at hu
    rw [(same a).2.1, (same a).2.2]
    exact h.inv.pos a ha hu
  · intro a ha
    rw [List.length_set] at ha ⊢
    rw [(same _).1, (same _).2.2, (same a).1, (same a).2.2]
    exact h.inv.prev a ha
  · intro a c ha hc
    rw [List.length_set] at ha hc
    rw [(same a).1, (same c).1, (same a).2.1, (same c).2.1]
    exact h.inv.uniq a c ha hc
  · intro a ha hu
    rw [List.length_set] at ha
    have hu2 := hu
    rw [(same a).1] at hu2
    by_cases e : i = a
    · subst e; rw [h4] at hu2; cases hu2
    · rw [sl_ne h3 _ e]; exact h.inv.zero a ha hu2
  · have := cnt_set l i x h3
    simp only [bn, h4, x0, if_true] at this
    rw [h.us]; omega
  · intro q w
    rw [has_set h3 x0]
    unfold upd
    by_cases e : q = key
    · subst e
      rw [if_pos rfl]
      constructor
      · rintro (⟨_, r⟩ | ⟨j, j1, j2, j3, j4, _⟩)
        · rw [← r, x2]
        · exact absurd (h.inv.uniq j i j1 h3 j3 h4 (j4.trans h5.symm)) j2
      · intro r
        exact Or.inl ⟨x1.trans h5, by rw [x2]; exact Option.some.inj r⟩
    · rw [if_neg e, ← h.has q w]
      constructor
      · rintro (⟨r, _⟩ | ⟨j, j1, j2, j3, j4, j5⟩)
        · exact absurd (r.symm.trans (x1.trans h5)) e
        · exact ⟨j, j1, j3, j4, j5⟩
      · rintro ⟨j, j1, j3, j4, j5⟩
        exact Or.inr ⟨j, j1, fun z => by subst z; exact e (j4.symm.trans h5), j3, j4, j5⟩
theorem TF.put_full (h : TF sd b l us f) (k : Nat) {key : ByteArray} (v : Int) (hk : 1 ≤ key.size ∧ key.size ≤ 33) (hf : f key = none) (hu : us = (l.length : Int)) : putT k sd b l us key v = some (l, us, 4) := by
  rcases h.find key with ⟨h1, h2⟩ | ⟨i, v1, h1, h2, h3, h4, h5, h6⟩
  · unfold putT
    rw [if_neg (by omega), h2]
    exact if_pos hu
  · rw [hf] at h1; cases h1
theorem TF.put_new (h : TF sd b l us f) {k : Nat} (hk0 : 300 ≤ k) {key : ByteArray} (v : Int) (hk : 1 ≤ key.size ∧ key.size ≤ 33) (hf : f key = none) (hu : us ≠ (l.length : Int)) : ∃ l', putT k sd b l us key v = some (l', us + 1, 0) ∧ TF sd b l' (us + 1) (upd f key (some v)) := by
  rcases h.find key with ⟨h1, h2⟩ | ⟨i, v1, h1, h2, h3, h4, h5, h6⟩
  case inr => rw [hf] at h1; cases h1
  have hz := h.sz
  have hc := cnt_le l
  have hus := h.us
  obtain ⟨u, u1, u2⟩ := cnt_free l (by omega)
  have hh : homeN sd b key < l.length := by rw [h.len]; exact homeN_lt sd b key h.b0 (by have := h.b1; omega)
  obtain ⟨m, m1, m2⟩ : ∃ m, m < l.length ∧ (homeN sd b key + m) % l.length = u := by
    by_cases c : homeN sd b key ≤ u
    · exact ⟨u - homeN sd b key, by omega, by rw [show homeN sd b key + (u - homeN sd b key) = u by omega, Nat.mod_eq_of_lt u1]⟩
    · exact ⟨u + l.length - homeN sd b key, by omega, by rw [show homeN sd b key + (u + l.length - homeN sd b key) = u + l.length by omega, Nat.add_mod_right, Nat.mod_eq_of_lt u1]⟩
  obtain ⟨l', r1, r2, r3, r4, r5⟩ := putL_ok (homeN sd b) m l (homeN sd b key) u 0 ⟨true, key, v, 0⟩ hz.1 (by omega) hh u1 u2 m2 (by omega) h.inv rfl rfl (by rw [Nat.add_zero, Nat.mod_eq_of_lt hh]) (fun p _ _ z => absurd z (by omega))
    (fun j j1 j2 j3 => by
      have := (h.has key _).1 ⟨j, j1, j2, j3, rfl⟩
      rw [hf] at this; cases this) k (by omega)
  refine ⟨l', ?_, h.b0, h.b1, r3.trans h.len, r2, by rw [r4, hus]; omega, ?_⟩
  · unfold putT
    rw [if_neg (by omega), h2]
    show (if us = (l.length : Int) then _ else _) = _
    rw [if_neg hu, r1]
    show some (l', wrap64 (us + 1), 0) = _
    rw [wr (by omega) (by omega)]
  · intro q w
    rw [r5, h.has]
    unfold upd
    by_cases e : q = key
    · subst e
      rw [if_pos rfl, hf]
      constructor
      · rintro (r | ⟨_, r⟩)
        · cases r
        · exact congrArg some r
      · intro r; exact Or.inr ⟨rfl, Option.some.inj r⟩
    · rw [if_neg e]
      constructor
      · rintro (r | ⟨r, _⟩)
        · exact r
        · exact absurd r.symm e
      · exact Or.inl
theorem TF.del_no (h : TF sd b l us f) (k : Nat) {key : ByteArray} (hf : f key = none) : delT k sd b l us key = some (l, us, false) := by
  rcases h.find key with ⟨h1, h2⟩ | ⟨i, v1, h1, h2, h3, h4, h5, h6⟩
  · unfold delT; rw [h2]
  · rw [hf] at h1; cases h1
theorem sumD_le {hm : ByteArray → Nat} {N : Nat} : ∀ l : List Sl, (∀ i, i < l.length → (sl l i).f3.toNat ≤ N) → sumD l ≤ l.length * N
  | [], _ => by simp [sumD]
  | s :: l, h => by
    have h1 := sumD_le (hm := hm) l (fun i hi => by have := h (i + 1) (by simpa using hi); rwa [sl_cons] at this)
    have h2 := h 0 (by simp)
    rw [sl_zero] at h2
    simp only [sumD, List.length_cons, Nat.add_mul, Nat.one_mul]
    omega
theorem TF.del_yes (h : TF sd b l us f) {k : Nat} (hk0 : 70000 ≤ k) {key : ByteArray} {v0 : Int} (hf : f key = some v0) : ∃ l', delT k sd b l us key = some (l', us - 1, true) ∧ TF sd b l' (us - 1) (upd f key none) := by
  rcases h.find key with ⟨h1, h2⟩ | ⟨i, v1, h1, h2, h3, h4, h5, h6⟩
  · rw [hf] at h1; cases h1
  have hz := h.sz
  have hc := cnt_le l
  have hus := h.us
  have hd : ∀ j, j < l.length → (sl l j).f3.toNat ≤ 256 := fun j hj => by
    by_cases e : (sl l j).f0 = true
    · obtain ⟨d, d1, d2, _⟩ := h.inv.pos j hj e
      omega
    · rw [h.inv.zero j hj (by simpa using e)]; decide
  have hs := sumD_le (hm := homeN sd b) l hd
  have hs2 : l.length * 256 ≤ 256 * 256 := Nat.mul_le_mul_right _ hz.2
  have hi := sumD_at l i h3
  obtain ⟨m, j, r1, r2, r3, r4, r5, r6⟩ := delL_ok (homeN sd b) (sumD l - (sl l i).f3.toNat) l i hz.1 (by omega) (h.inv.hole h3 h4) (by omega) k (by omega)
  obtain ⟨q1, q2, q3⟩ := hole_shut (by omega) r2 (by exact r5)
  refine ⟨m.set j zeroS, ?_, h.b0, h.b1, (List.length_set ..).trans (r3.trans h.len), q1, by omega, ?_⟩
  · unfold delT
    rw [h2]
    show (delL k l i).map _ = _
    rw [r1]
    show some (m.set j zeroS, wrap64 (us - 1), true) = _
    rw [wr (by omega) (by omega)]
  · intro q w
    rw [q3, r6]
    unfold upd
    by_cases e : q = key
    · subst e
      rw [if_pos rfl]
      constructor
      · rintro ⟨a, a1, a2, a3, a4, _⟩
        exact absurd (h.inv.uniq a i a1 h3 a3 h4 (a4.trans h5.symm)) a2
      · intro r; cases r
    · rw [if_neg e, ← h.has q w]
      constructor
      · rintro ⟨a, a1, a2, a3, a4, a5⟩; exact ⟨a, a1, a3, a4, a5⟩
      · rintro ⟨a, a1, a3, a4, a5⟩
        exact ⟨a, a1, fun z => by subst z; exact e (a4.symm.trans h5), a3, a4, a5⟩
end
theorem TF.new (sd : Int) (b : Nat) (h0 : 1 ≤ b) (h1 : b ≤ 8) : TF sd b (List.replicate (2 ^ b) zeroS) 0 (fun _ => none) := by
  have hs : ∀ i, sl (List.replicate (2 ^ b) zeroS) i = zeroS := by
    intro i
    unfold sl rd_T52
    rw [Int.toNat_natCast, List.getD_eq_getElem?_getD, List.getElem?_replicate]
    split <;> rfl
  have z0 : zeroS.f0 = false := rfl
  have hc : ∀ n, cnt (List.replicate n zeroS) = 0 := by
    intro n
    induction n with
    | zero => rfl
    | succ n ih => rw [List.replicate_succ]; simp only [cnt, bn, z0]; simpa using ih
  refine ⟨h0, h1, List.length_replicate, ⟨?_, ?_, ?_, ?_⟩, by rw [hc]; rfl, ?_⟩
  · intro i _ hu; rw [hs, z0] at hu; cases hu
  · intro i _ hu; rw [hs, z0] at hu; cases hu
  · intro i j _ _ hu; rw [hs, z0] at hu; cases hu
  · intro i _ _; exact hs i
  · intro k v
    constructor
    · rintro ⟨i, _, hu, _⟩; rw [hs, z0] at hu; cases hu
    · intro h; cases h
end Go.Proofs.Ytonafabgbkohlaa.La


namespace Go.Proofs.Ytonafabgbkohlaa.La
open Go.RowKit Go.Proofs.YtonafabgbkohlaaW.PrintWords Go.Proofs.YtonafabgbkohlaaW.PrintLast Go.Proofs.YtonafabgbkohlaaW.PrintMore Go.Proofs.Ytonafabgbkohlaa.Q
set_option linter.unusedSimpArgs false
set_option linter.unusedVariables false
abbrev KF := ByteArray → Option Int
def TT (g gs : Nat) (sd : Int) (b : Nat) (us : Int) (f : KF) (W : World) : Prop := ∃ l, Tab g gs sd (b : Int) l us W ∧ TF sd b l us f
section
variable {g gs : Nat} {sd : Int} {b : Nat} {us : Int} {f : KF} {W W' : World}
theorem TT.below (h : TT g gs sd b us f W) (hb : Below W.heap.size W W') : TT g gs sd b us f W' := by obtain ⟨l, h1, h2⟩ := h; exact ⟨l, h1.below hb, h2⟩
theorem TT.drew (h : TT g gs sd b us f W) : TT g gs sd b us f W.drew := by obtain ⟨l, h1, h2⟩ := h; exact ⟨l, h1.drew, h2⟩
theorem TT.drewN (h : TT g gs sd b us f W) (n : Nat) : TT g gs sd b us f (W.drewN n) := by obtain ⟨l, h1, h2⟩ := h; exact ⟨l, h1.drewN n, h2⟩
theorem TT.alloc (h : TT g gs sd b us f W) (o : Obj) : TT g gs sd b us f (W.alloc o) := by obtain ⟨l, h1, h2⟩ := h; exact ⟨l, h1.alloc o, h2⟩
theorem TT.fr {S : Nat → Prop} (h : TT g gs sd b us f W) (hb : Fr S W W') (h1 : ¬ S g) (h2 : ¬ S gs) : TT g gs sd b us f W' := by
  obtain ⟨l, k1, k2⟩ := h
  exact ⟨l, ⟨hb.blk k1.hd h1, hb.blk k1.sl h2, k1.ne⟩, k2⟩
theorem TT.rng (h : TT g gs sd b us f W) : 0 ≤ us ∧ us ≤ 2 ^ b := by
  obtain ⟨l, h1, h2⟩ := h
  have := cnt_le l
  have e := h2.len
  rw [h2.us]
  refine ⟨by omega, ?_⟩
  have : ((cnt l : Nat) : Int) ≤ ((2 ^ b : Nat) : Int) := by omega
  simpa using this
end
/-- What Put does to a table as a function. -/
def putF (b : Nat) (f : KF) (us : Int) (key : ByteArray) (v : Int) : Int × Int × KF :=
  if key.size = 0 ∨ key.size > 33 then (1, us, f) else match f key with
  | some _ => (0, us, upd f key (some v))
  | none => if us = 2 ^ b then (4, us, f) else (0, us + 1, upd f key (some v))
def delF (f : KF) (us : Int) (key : ByteArray) : Bool × Int × KF := match f key with
  | none => (false, us, f)
  | some _ => (true, us - 1, upd f key none)
def getF (f : KF) (key : ByteArray) : Int × Bool := match f key with
  | none => (0, false)
  | some v => (v, true)
theorem tt_new (sd : Int) (b : Nat) (w : World) (h0 : 1 ≤ b) (h1 : b ≤ 8) : Calls Try.prog 12 #[.int .u64 sd, .int .i64 (b : Int)] w fun e w' => e = .returned (.tuple #[.pointer (some ⟨w.heap.size + 1, 0, none⟩), .int .i64 0]) ∧ TT (w.heap.size + 1) w.heap.size sd b 0 (fun _ => none) w' ∧ Below w.heap.size w w' := by
  refine (robin_New.calls sd b w h0 h1).mono ?_
  rintro e w' ⟨rfl, ht, hb⟩
  exact ⟨rfl, ⟨_, ht, TF.new sd b h0 h1⟩, hb⟩
theorem tt_put {g gs : Nat} {sd : Int} {b : Nat} {us : Int} {f : KF} {w : World} (h : TT g gs sd b us f w) (key : ByteArray) (v : Int) (hk : key.size ≤ 4611686018427387904) {e0 us' : Int} {f' : KF} (hp : putF b f us key v = (e0, us', f')) :
    Calls Try.prog 21 #[.pointer (some ⟨g, 0, none⟩), .string key, .int .i64 v] w fun e w' => e = .returned (.int .i64 e0) ∧ TT g gs sd b us' f' w' ∧ Fr (fun q => q = g ∨ q = gs) w w' := by
  obtain ⟨l, ht, hf⟩ := h
  have key2 : ∃ l', putT 300 sd b l us key v = some (l', us', e0) ∧ TF sd b l' us' f' := by
    unfold putF at hp
    by_cases hb : key.size = 0 ∨ key.size > 33
    · rw [if_pos hb] at hp; cases hp
      exact ⟨l, hf.put_bad 300 v hb, hf⟩
    · rw [if_neg hb] at hp
      cases e : f key with
      | some v0 =>
        rw [e] at hp; cases hp
        exact hf.put_old 300 v (by omega) e
      | none =>
        rw [e] at hp
        have hl : (l.length : Int) = 2 ^ b := by rw [hf.len]; simp
        by_cases hu : us = 2 ^ b
        · simp only [if_pos hu] at hp; cases hp
          exact ⟨l, hf.put_full 300 v (by omega) e (by omega), hf⟩
        · simp only [if_neg hu] at hp; cases hp
          exact hf.put_new (Nat.le_refl _) v (by omega) e (by omega)
  obtain ⟨l', h1, h2⟩ := key2
  refine (robin_Table_Put.calls 300 g gs sd us b l key v l' us' e0 w ht hf.len hf.b0 hf.b1 hk h1).mono ?_
  rintro e w' ⟨rfl, k1, _, k3⟩
  exact ⟨rfl, ⟨l', k1, h2⟩, k3⟩
theorem tt_del {g gs : Nat} {sd : Int} {b : Nat} {us : Int} {f : KF} {w : World} (h : TT g gs sd b us f w) (key : ByteArray) (hk : key.size ≤ 4611686018427387904) {e0 : Bool} {us' : Int} {f' : KF} (hp : delF f us key = (e0, us', f')) :
    Calls Try.prog 22 #[.pointer (some ⟨g, 0, none⟩), .string key] w fun e w' => e = .returned (.bool e0) ∧ TT g gs sd b us' f' w' ∧ Fr (fun q => q = g ∨ q = gs) w w' := by
  obtain ⟨l, ht, hf⟩ := h
  have key2 : ∃ l', delT 70000 sd b l us key = some (l', us', e0) ∧ TF sd b l' us' f' := by
    unfold delF at hp
    cases e : f key with
    | none =>
      rw [e] at hp; cases hp
      exact ⟨l, hf.del_no 70000 e, hf⟩
    | some v0 =>
      rw [e] at hp; cases hp
      exact hf.del_yes (Nat.le_refl _) e
  obtain ⟨l', h1, h2⟩ := key2
  refine (robin_Table_Delete.calls 70000 g gs sd us b l key l' us' e0 w ht hf.len hf.b0 hf.b1 hk h1).mono ?_
  rintro e w' ⟨rfl, k1, _, k3⟩
  exact ⟨rfl, ⟨l', k1, h2⟩, k3⟩
theorem tt_get {g gs : Nat} {sd : Int} {b : Nat} {us : Int} {f : KF} {w : World} (h : TT g gs sd b us f w) (key : ByteArray) (hk : key.size ≤ 4611686018427387904) {v : Int} {is : Bool} (hp : getF f key = (v, is)) :
    Calls Try.prog 25 #[.pointer (some ⟨g, 0, none⟩), .string key] w fun e w' => e = .returned (.tuple #[.int .i64 v, .bool is]) ∧ TT g gs sd b us f w' ∧ Below w.heap.size w w' := by
  obtain ⟨l, ht, hf⟩ := h
  have e : getT sd b l key = (v, is) := (hf.get key).trans hp
  have G := robin_Table_Get.calls g gs sd us b l key w ht hf.len hf.b0 hf.b1 hk
  rw [e] at G
  refine G.mono ?_
  rintro e w' ⟨rfl, hb⟩
  exact ⟨rfl, ⟨l, ht.below hb, hf⟩, hb⟩
theorem tt_len {g gs : Nat} {sd : Int} {b : Nat} {us : Int} {f : KF} {w : World} (h : TT g gs sd b us f w) :
    Calls Try.prog 15 #[.pointer (some ⟨g, 0, none⟩)] w fun e w' => e = .returned (.int .i64 us) ∧ w' = w := by
  obtain ⟨l, ht, hf⟩ := h
  exact robin_Table_Len.calls g gs sd b us l w ht
theorem ba_bne {a b : ByteArray} (h : a ≠ b) : (a == b) = false := by
  cases hh : (a == b) with
  | false => rfl
  | true =>
    exfalso; apply h
    have : (a.data == b.data) = true := hh
    cases a; cases b
    simp at this
    rw [this]
theorem ba_bne2 {a b : ByteArray} (h : a ≠ b) : (a != b) = true := by unfold bne; rw [ba_bne h]; rfl
/-- Only keys that may be are in it. -/
def KeyOk (f : KF) : Prop := ∀ q v, f q = some v → 1 ≤ q.size ∧ q.size ≤ 33
theorem KeyOk.none : KeyOk (fun _ => none) := fun q v h => nomatch h
theorem KeyOk.put {f f' : KF} {b : Nat} {us us' e : Int} {key : ByteArray} {v : Int} (h : KeyOk f) (hp : putF b f us key v = (e, us', f')) : KeyOk f' := by
  unfold putF at hp
  by_cases hb : key.size = 0 ∨ key.size > 33
  · rw [if_pos hb] at hp; cases hp; exact h
  · rw [if_neg hb] at hp
    have hu : KeyOk (upd f key (some v)) := fun q w hq => by
      unfold upd at hq
      by_cases e : q = key
      · subst e; omega
      · rw [if_neg e] at hq; exact h q w hq
    cases e2 : f key with
    | some _ => rw [e2] at hp; cases hp; exact hu
    | none =>
      rw [e2] at hp
      by_cases hf : us = 2 ^ b
      · simp only [if_pos hf] at hp; cases hp; exact h
      · simp only [if_neg hf] at hp; cases hp; exact hu
theorem KeyOk.del {f f' : KF} {us us' : Int} {e : Bool} {key : ByteArray} (h : KeyOk f) (hp : delF f us key = (e, us', f')) : KeyOk f' := by
  unfold delF at hp
  cases e2 : f key with
  | none => rw [e2] at hp; cases hp; exact h
  | some _ =>
    rw [e2] at hp; cases hp
    intro q w hq
    unfold upd at hq
    by_cases e : q = key
    · rw [if_pos e] at hq; cases hq
    · rw [if_neg e] at hq; exact h q w hq
/-- A Put that fails changes nothing; the key is not there. -/
theorem putF_no {f f' : KF} {b : Nat} {us us' e : Int} {key : ByteArray} {v : Int} (h : KeyOk f) (hp : putF b f us key v = (e, us', f')) (he : e ≠ 0) : f' = f ∧ us' = us ∧ f key = none := by
  unfold putF at hp
  by_cases hb : key.size = 0 ∨ key.size > 33
  · rw [if_pos hb] at hp; cases hp
    refine ⟨rfl, rfl, ?_⟩
    cases e2 : f key with
    | none => rfl
    | some w => have := h key w e2; omega
  · rw [if_neg hb] at hp
    cases e2 : f key with
    | some _ => rw [e2] at hp; cases hp; exact absurd rfl he
    | none =>
      rw [e2] at hp
      by_cases hf : us = 2 ^ b
      · simp only [if_pos hf] at hp; cases hp; exact ⟨rfl, rfl, rfl⟩
      · simp only [if_neg hf] at hp; cases hp; exact absurd rfl he
theorem putF_yes {f f' : KF} {b : Nat} {us us' : Int} {key : ByteArray} {v : Int} (hp : putF b f us key v = (0, us', f')) : f' = upd f key (some v) ∧ us' = us + (if (getF f key).2 = true then 0 else 1) := by
  unfold putF at hp
  unfold getF
  by_cases hb : key.size = 0 ∨ key.size > 33
  · rw [if_pos hb] at hp; cases hp
  · rw [if_neg hb] at hp
    cases e2 : f key with
    | some _ => rw [e2] at hp; cases hp; exact ⟨rfl, by simp⟩
    | none =>
      rw [e2] at hp
      by_cases hf : us = 2 ^ b
      · simp only [if_pos hf] at hp; cases hp
      · simp only [if_neg hf] at hp; cases hp; exact ⟨rfl, by simp⟩
theorem getF_self (f : KF) (key : ByteArray) (v : Int) : getF (upd f key (some v)) key = (v, true) := by unfold getF upd; simp
theorem getF_gone (f : KF) (key : ByteArray) : getF (upd f key none) key = (0, false) := by unfold getF upd; simp
theorem getF_ne (f : KF) {key q : ByteArray} (o : Option Int) (h : q ≠ key) : getF (upd f key o) q = getF f q := by unfold getF upd; rw [if_neg h]
end Go.Proofs.Ytonafabgbkohlaa.La


namespace Go.Proofs.Ytonafabgbkohlaa.La
open Go.RowKit Go.Proofs.Ytonafabgbkohlaa.Zip Go.Proofs.YtonafabgbkohlaaW.PrintWords Go.Proofs.YtonafabgbkohlaaW.PrintLast Go.Proofs.YtonafabgbkohlaaW.PrintMore Go.Proofs.Ytonafabgbkohlaa.Q
set_option linter.unusedSimpArgs false
set_option linter.unusedVariables false
def fewB (l0 : List S35) (m : Nat) : Bool := decide (l0.length ≤ m ∧ ∀ i : Nat, i < l0.length → (rd_T35 l0 (i : Int)).f1.size ≤ 100)
set_option maxHeartbeats 2000000 in
theorem few_tells (A0 : Option Addr) (c0 : Nat) (l0 : List S35) (m : Nat) (w : World) (hr0 : Kd.C k35 w A0 l0.length l0) (hm : m ≤ 1000) :
    Calls Try.prog 10 #[.slice A0 l0.length c0, .int .i64 (m : Int)] w fun e w' => ∃ b, e = .returned (.bool b) ∧ (b = true ↔ l0.length ≤ m ∧ ∀ i : Nat, i < l0.length → (rd_T35 l0 (i : Int)).f1.size ≤ 100) ∧ Below w.heap.size w w' := by
  have HR0 := Aside0.mk hr0
  clear hr0
  by_cases h1 : m < l0.length
  · have d1 : decide (m < l0.length) = true := decide_eq_true h1
    go_enter Try.func10, Try.ntmps10
    go_wp2
    go_ret
    exact ⟨_, rfl, ⟨fun h => Bool.noConfusion h, fun h => by have := h.1; omega⟩, Below.refl _ _⟩
  · have d1 : decide (m < l0.length) = false := decide_eq_false h1
    have HM := Aside0.mk h1
    clear h1
    go_enter Try.func10, Try.ntmps10
    go_wp2
    go_loopw [5] (fun v5 w' => ∃ i : Nat, v5 = .int .i64 i ∧ Aside0 (i ≤ l0.length ∧ ∀ j : Nat, j < i → (rd_T35 l0 (j : Int)).f1.size ≤ 100) ∧ Drawn0 w w') (fun v5 _ => l0.length - (intOf v5).toNat)
    case atStart => exact ⟨0, rfl, ⟨Nat.zero_le _, fun j hj => absurd hj (Nat.not_lt_zero _)⟩, by repeat (first | exact Drawn0.refl _ | apply Drawn0.step)⟩
    case round =>
      obtain ⟨i, rfl, HI, ⟨m1, rfl⟩⟩ := hrel
      have hi := HI.out.1
      by_cases hlt : i < l0.length
      · have d2 : decide (i < l0.length) = true := decide_eq_true hlt
        have HLT := Aside0.mk hlt
        obtain ⟨ad, ea, x0, x1, x2⟩ := at_T35 HR0.out (i : Int) (by omega) (by omega)
        subst ea
        simp only [Int.toNat_natCast] at x0 x1 x2
        have dw : wrap64 ((i : Int) + 1) = (i : Int) + 1 := by have := HM.out; unfold wrap64; omega
        by_cases hs : 100 < (rd_T35 l0 (i : Int)).f1.size
        · have d3 : decide (100 < (rd_T35 l0 (i : Int)).f1.size) = true := decide_eq_true hs
          have d4 : decide ((100 : Int) < ((rd_T35 l0 (i : Int)).f1.size : Int)) = true := decide_eq_true (by omega)
          have HS := Aside0.mk hs
          clear hs hi
          go_wp2
          go_ret
          exact ⟨_, rfl, ⟨fun h => Bool.noConfusion h, fun h => by have := h.2 i HLT.out; have := HS.out; omega⟩, pw_below_drewN (Below.refl _ _) _⟩
        · have d3 : decide (100 < (rd_T35 l0 (i : Int)).f1.size) = false := decide_eq_false hs
          have d4 : decide ((100 : Int) < ((rd_T35 l0 (i : Int)).f1.size : Int)) = false := decide_eq_false (by omega)
          have HS := Aside0.mk hs
          have DW := Aside0.mk dw
          clear hs hi
          go_wp2
          go_roundw
          case rel =>
            refine ⟨i + 1, by rw [DW.out]; rfl, ⟨by have := HLT.out; omega, fun j hj => ?_⟩, by repeat (first | exact Drawn0.refl _ | apply Drawn0.step)⟩
            by_cases e : j = i
            · subst e; have := HS.out; omega
            · exact HI.out.2 j (by omega)
          case measure =>
            rw [DW.out]; simp only [intOf]; have := HLT.out; omega
      · obtain rfl : i = l0.length := by omega
        have d2 : decide (l0.length < l0.length) = false := decide_eq_false hlt
        go_wp2
        go_ret
        exact ⟨_, rfl, ⟨fun _ => ⟨by have := HM.out; omega, HI.out.2⟩, fun _ => rfl⟩, pw_below_drewN (Below.refl _ _) _⟩
theorem few_calls (A0 : Option Addr) (c0 : Nat) (l0 : List S35) (m : Nat) (w : World) (hr0 : Kd.C k35 w A0 l0.length l0) (hm : m ≤ 1000) (r : Bool) (hr : fewB l0 m = r) :
    Calls Try.prog 10 #[.slice A0 l0.length c0, .int .i64 (m : Int)] w fun e w' => e = .returned (.bool r) ∧ Below w.heap.size w w' := by
  refine (few_tells A0 c0 l0 m w hr0 hm).mono ?_
  rintro e w' ⟨b, rfl, hb, hB⟩
  have : b = r := by rw [← hr, Bool.eq_iff_iff, hb]; unfold fewB; rw [decide_eq_true_iff]
  rw [this]
  exact ⟨rfl, hB⟩
theorem fewB_true {l0 : List S35} {m : Nat} (h : fewB l0 m = true) : l0.length ≤ m ∧ ∀ i : Nat, i < l0.length → (rd_T35 l0 (i : Int)).f1.size ≤ 100 := by
  unfold fewB at h; exact of_decide_eq_true h
end Go.Proofs.Ytonafabgbkohlaa.La


namespace Go.Proofs.Ytonafabgbkohlaa.La
open Go.RowKit Go.Proofs.YtonafabgbkohlaaW.PrintWords Go.Proofs.YtonafabgbkohlaaW.PrintLast Go.Proofs.YtonafabgbkohlaaW.PrintMore Go.Proofs.Ytonafabgbkohlaa.Q
set_option linter.unusedSimpArgs false
set_option linter.unusedVariables false
theorem uw {x : Int} (h0 : 0 ≤ x) (h1 : x ≤ 18446744073709551615) : IntKind.u64.wrap x = x := IntWalk.u64_in x ⟨h0, h1⟩
theorem xor_U (a b : Int) : 0 ≤ Go.bits .xor .u64 a b ∧ Go.bits .xor .u64 a b ≤ 18446744073709551615 := by
  unfold Go.bits; rw [IntKind.wrap_u64]; omega
theorem mix_r (a : Int) : sandglassref03_Mix.f a = some (mixI a) := by
  unfold sandglassref03_Mix.f mixI mix3 mix2 mix1
  rw [Int.mul_one, uw (xor_U _ _).1 (xor_U _ _).2]
theorem bt_at (s : ByteArray) (i : Nat) (h : i < s.size) : bt s i = ((s.data.toList.getD i 0).toNat : Int) := by
  unfold bt
  rw [dif_pos (by simpa using h)]
  rw [List.getD_eq_getElem?_getD, List.getElem?_eq_getElem (by simpa using h)]; rfl
theorem sum_l0 (s : ByteArray) (hs : s.size ≤ 1000000) (a : Int) (n : Nat) : ∀ (d i : Nat), s.size - i = d → i ≤ s.size → d < n → sandglassref03_Sum.l0 n s (sumL (mixI a) (s.data.toList.take i)) (i : Int) = some (sumI a s) := by
  induction n with
  | zero => intro d i _ _ h; omega
  | succ n ih =>
    intro d i hd hi hn
    simp only [sandglassref03_Sum.l0]
    by_cases h : (i : Int) < (s.size : Int)
    · have hlt : i < s.size := by omega
      have hv : (s.data.toList.getD i 0).toNat < 256 := (s.data.toList.getD i 0).toNat_lt
      rw [if_pos h, if_pos (by omega), bt_at s i hlt, uw (x := ((s.data.toList.getD i 0).toNat : Int)) (by omega) (by omega), uw (by omega) (by omega), mix_r, Option.bind_some, wrT (by omega) (by omega)]
      have e : mixI (Go.bits .xor .u64 (sumL (mixI a) (s.data.toList.take i)) (((s.data.toList.getD i 0).toNat : Int) + 1)) = sumL (mixI a) (s.data.toList.take (i + 1)) := by
        rw [sum_take s i hlt, sumL_snoc]
      rw [e, show (i : Int) + 1 = ((i + 1 : Nat) : Int) by omega]
      exact ih (d - 1) (i + 1) (by omega) (by omega) (by omega)
    · rw [if_neg h, List.take_of_length_le (by simp; omega), uw (by omega) (by omega), mix_r, Option.bind_some]
      rfl
theorem sum_r (n : Nat) (a : Int) (s : ByteArray) (hs : s.size ≤ 1000) (hn : 1100 ≤ n) : sandglassref03_Sum.f n a s = some (sumI a s) := by
  unfold sandglassref03_Sum.f
  rw [mix_r, Option.bind_some]
  have := sum_l0 s (by omega) a n s.size 0 (by omega) (by omega) (by omega)
  simpa [sumL] using this
theorem home_r (sd : Int) (b : Nat) (key : ByteArray) (h0 : 1 ≤ b) (h1 : b ≤ 62) : sandglassref03_Home.f 1 (sumI sd key) (b : Int) = some (homeN sd b key : Int) := by
  obtain ⟨a1, q0, q1⟩ := home_at (sumI_U sd key) b h0 h1
  unfold sandglassref03_Home.f
  have e : wrap64 (64 - (b : Int)) = ((64 - b : Nat) : Int) := by rw [wrT (by omega) (by omega)]; omega
  have e2 : IntKind.u64.wrap ((64 - b : Nat) : Int) = ((64 - b : Nat) : Int) := uw (by omega) (by omega)
  have s : shr .u64 (sumI sd key) ((64 - b : Nat) : Int) = sumI sd key / 2 ^ (64 - b) := by
    unfold shr
    have : min (((64 - b : Nat) : Int)).toNat IntKind.u64.bits = 64 - b := by
      have : IntKind.u64.bits = 64 := rfl
      rw [this, Int.toNat_natCast]; omega
    rw [this]
  rw [if_neg (by omega), decide_eq_false (by omega)]
  have r : (2 : Int) ^ b ≤ 2 ^ 62 := by
    have : (2 : Nat) ^ b ≤ 2 ^ 62 := Nat.pow_le_pow_right (by omega) h1
    exact_mod_cast this
  simp only [sandglassref03_Home.j0, Bool.false_eq_true, if_false, e, e2]
  rw [if_pos (by omega), s, wrT (by omega) (by omega)]
  unfold homeN
  rw [Int.toNat_of_nonneg q0]
/-- Going from a key's home on, with what was found so far. -/
def scan (l : List Sl) (key : ByteArray) (h : Nat) : Nat → Nat → Bool → Int → Bool × Int
  | 0, _, fo, va => (fo, va)
  | r + 1, d, fo, va => if (sl l ((h + d) % l.length)).f0 = false ∨ (sl l ((h + d) % l.length)).f3 < (d : Int) then (fo, va) else if (sl l ((h + d) % l.length)).f1 = key then scan l key h r (d + 1) true (sl l ((h + d) % l.length)).f2 else scan l key h r (d + 1) fo va
theorem scan_none (l : List Sl) (key : ByteArray) (h : Nat) (fo : Bool) (va : Int) : ∀ r d, findL l key h r d = none → scan l key h r d fo va = (fo, va)
  | 0, d, _ => rfl
  | r + 1, d, e => by
    rw [findL] at e
    replace e : (if (sl l ((h + d) % l.length)).f0 = false then none else if (sl l ((h + d) % l.length)).f3 < (d : Int) then none else if (sl l ((h + d) % l.length)).f1 = key then some ((h + d) % l.length) else findL l key h r (d + 1)) = none := e
    rw [scan]
    by_cases h0 : (sl l ((h + d) % l.length)).f0 = false ∨ (sl l ((h + d) % l.length)).f3 < (d : Int)
    · rw [if_pos h0]
    · rw [if_neg h0]
      rw [if_neg (fun q => h0 (Or.inl q)), if_neg (fun q => h0 (Or.inr q))] at e
      by_cases h1 : (sl l ((h + d) % l.length)).f1 = key
      · rw [if_pos h1] at e; cases e
      · rw [if_neg h1] at e ⊢
        exact scan_none l key h fo va r (d + 1) e
theorem scan_kept (l : List Sl) (hn : 0 < l.length) (key : ByteArray) (h : Nat) (v : Int) (hv : ∀ j, j < l.length → (sl l j).f0 = true → (sl l j).f1 = key → (sl l j).f2 = v) : ∀ r d, scan l key h r d true v = (true, v)
  | 0, d => rfl
  | r + 1, d => by
    rw [scan]
    by_cases h0 : (sl l ((h + d) % l.length)).f0 = false ∨ (sl l ((h + d) % l.length)).f3 < (d : Int)
    · rw [if_pos h0]
    · rw [if_neg h0]
      by_cases h1 : (sl l ((h + d) % l.length)).f1 = key
      · rw [if_pos h1, hv _ (Nat.mod_lt _ hn) (by cases e : (sl l ((h + d) % l.length)).f0; exact absurd (Or.inl e) h0; rfl) h1]
        exact scan_kept l hn key h v hv r (d + 1)
      · rw [if_neg h1]; exact scan_kept l hn key h v hv r (d + 1)
theorem scan_some (l : List Sl) (hn : 0 < l.length) (key : ByteArray) (h : Nat) (v : Int) (hv : ∀ j, j < l.length → (sl l j).f0 = true → (sl l j).f1 = key → (sl l j).f2 = v) (i : Nat) : ∀ r d fo va, findL l key h r d = some i → scan l key h r d fo va = (true, v)
  | 0, d, fo, va, e => by cases e
  | r + 1, d, fo, va, e => by
    rw [findL] at e
    replace e : (if (sl l ((h + d) % l.length)).f0 = false then none else if (sl l ((h + d) % l.length)).f3 < (d : Int) then none else if (sl l ((h + d) % l.length)).f1 = key then some ((h + d) % l.length) else findL l key h r (d + 1)) = some i := e
    rw [scan]
    by_cases h0 : (sl l ((h + d) % l.length)).f0 = false
    · rw [if_pos h0] at e; cases e
    rw [if_neg h0] at e
    by_cases h2 : (sl l ((h + d) % l.length)).f3 < (d : Int)
    · rw [if_pos h2] at e; cases e
    rw [if_neg h2] at e
    rw [if_neg (fun q => q.elim h0 h2)]
    by_cases h1 : (sl l ((h + d) % l.length)).f1 = key
    · rw [if_pos h1, hv _ (Nat.mod_lt _ hn) (by cases e : (sl l ((h + d) % l.length)).f0; exact absurd e h0; rfl) h1]
      exact scan_kept l hn key h v hv r (d + 1)
    · rw [if_neg h1] at e ⊢
      exact scan_some l hn key h v hv i r (d + 1) fo va e
theorem TF.scan {sd : Int} {b : Nat} {l : List Sl} {us : Int} {f : KF} (h : TF sd b l us f) (key : ByteArray) {v : Int} {is : Bool} (hg : getF f key = (v, is)) : scan l key (homeN sd b key) l.length 0 false 0 = (is, v) := by
  unfold getF at hg
  rcases h.find key with ⟨h1, h2⟩ | ⟨i, v1, h1, h2, h3, h4, h5, h6⟩
  · rw [h1] at hg; cases hg
    exact scan_none l key _ false 0 _ _ h2
  · rw [h1] at hg; cases hg
    refine scan_some l (by omega) key _ v (fun j j1 j2 j3 => ?_) i _ _ false 0 h2
    rw [h.inv.uniq j i j1 h3 j2 h4 (j3.trans h5.symm)]
    exact h6
end Go.Proofs.Ytonafabgbkohlaa.La


namespace Go.Proofs.Ytonafabgbkohlaa.La
open Go.RowKit Go.Proofs.Ytonafabgbkohlaa.Zip Go.Proofs.YtonafabgbkohlaaW.PrintWords Go.Proofs.YtonafabgbkohlaaW.PrintLast Go.Proofs.YtonafabgbkohlaaW.PrintMore Go.Proofs.Ytonafabgbkohlaa.Q
set_option linter.unusedSimpArgs false
set_option linter.unusedVariables false
abbrev Pr := S70
abbrev kP := k70
/-- A map: its block, its row. -/
def Mp (gm : Nat) (most : Int) (L : List Pr) (W : World) : Prop := ∃ v, W.heap[gm]? = some (.cells #[v, .int .i64 most] 39 (0, 0)) ∧ Kd.R kP 70 W (gm + 1) (fun k => gm < k) v L
theorem Mp.below {gm : Nat} {most : Int} {L : List Pr} {W W' : World} (h : Mp gm most L W) (hb : Below W.heap.size W W') : Mp gm most L W' := by
  obtain ⟨v, h1, h2⟩ := h; exact ⟨v, blk_below h1 hb, Kd.R_below h2 hb⟩
theorem Mp.drew {gm : Nat} {most : Int} {L : List Pr} {W : World} (h : Mp gm most L W) : Mp gm most L W.drew := h.below (below_drew (Below.refl _ _))
theorem Mp.fr {gm : Nat} {most : Int} {L : List Pr} {W W' : World} {S : Nat → Prop} (h : Mp gm most L W) (hb : Fr S W W') (hS : ∀ q, S q → q < gm) : Mp gm most L W' := by
  obtain ⟨v, h1, h2⟩ := h
  exact ⟨v, hb.blk h1 (fun q => by have := hS _ q; omega), Kd.R_step h2 (fun k hk hlt => hb.block k hlt (fun q => by have := hS _ q; omega))⟩
set_option maxHeartbeats 2000000 in
theorem map_new_no (bi : Int) (w : World) (h : bi < 1 ∨ 8 < bi) : Calls Try.prog 13 #[.int .i64 bi] w fun e w' => e = .returned (.tuple #[.pointer none, .int .i64 1]) ∧ w' = w := by
  by_cases h1 : bi < 1
  · have d1 : decide (bi < 1) = true := decide_eq_true h1
    go_enter Try.func13, Try.ntmps13
    go_wp2
    go_ret2
    exact ⟨rfl, rfl⟩
  · have d1 : decide (bi < 1) = false := decide_eq_false h1
    have d2 : decide (8 < bi) = true := decide_eq_true (by omega)
    go_enter Try.func13, Try.ntmps13
    go_wp2
    go_ret2
    exact ⟨rfl, rfl⟩
set_option maxRecDepth 100000 in
set_option maxHeartbeats 2000000 in
theorem map_new (b : Nat) (w : World) (h0 : 1 ≤ b) (h1 : b ≤ 8) : Calls Try.prog 13 #[.int .i64 (b : Int)] w fun e w' => e = .returned (.tuple #[.pointer (some ⟨w.heap.size, 0, none⟩), .int .i64 0]) ∧ Mp w.heap.size ((2 ^ b : Nat) : Int) [] w' ∧ Below w.heap.size w w' := by
  have d1 : decide ((b : Int) < 1) = false := decide_eq_false (by omega)
  have d2 : decide (8 < (b : Int)) = false := decide_eq_false (by omega)
  have d2n : decide (8 < b) = false := decide_eq_false (by omega)
  go_enter Try.func13, Try.ntmps13
  go_wp2
  go_loopw [4, 5] (fun v4 v5 w' => ∃ j : Nat, j ≤ b ∧ v4 = .int .i64 ((2 ^ j : Nat) : Int) ∧ v5 = .int .i64 j ∧ w' = w) (fun _ v5 _ => b - (intOf v5).toNat)
  case atStart => exact ⟨0, Nat.zero_le _, rfl, rfl, rfl⟩
  case round =>
    obtain ⟨j, hj, rfl, rfl, rfl⟩ := hrel
    obtain ⟨n, hn⟩ : ∃ n, 2 ^ j = n := ⟨_, rfl⟩
    have hp : n ≤ 256 := by
      have := Nat.pow_le_pow_right (show 0 < 2 by omega) (show j ≤ 8 by omega)
      omega
    by_cases hlt : j < b
    · have d3 : decide (j < b) = true := decide_eq_true hlt
      have hn2 : 2 ^ (j + 1) = 2 * n := by rw [← hn, Nat.pow_succ]; omega
      have HN2 := Aside0.mk hn2
      have HLT := Aside0.mk hlt
      have DW := Aside0.mk (show wrap64 ((j : Int) + 1) = ((j + 1 : Nat) : Int) by unfold wrap64; omega)
      have DM := Aside0.mk (show wrap64 (2 * (n : Int)) = ((2 * n : Nat) : Int) by unfold wrap64; omega)
      rw [hn]
      clear hn hn2 hlt
      go_wp2
      go_roundw
      case rel => exact ⟨j + 1, by have := HLT.out; omega, by rw [HN2.out]; simp, rfl, trivial⟩
      case measure => simp only [intOf]; have := HLT.out; omega
    · obtain rfl : j = b := by omega
      have d3 : decide (j < j) = false := decide_eq_false hlt
      have HN := Aside0.mk hn
      rw [hn]
      clear hn hlt
      go_wp2
      go_ret2
      exact ⟨rfl, ⟨.slice none 0 0, by rw [HN.out]; exact blk_new wr _, Kd.R_nil _ _ _ _ _⟩, (Below.refl _ _).alloc (Nat.le_refl _) _⟩
/-- A key's place in rising pairs. -/
structure PlaceP (L : List Pr) (key : ByteArray) (i : Nat) (is : Bool) : Prop where
  le : i ≤ L.length
  lo : ∀ j, j < i → Op.bytesLess (rd_T70 L (j : Int)).f0.toList key.toList = true
  hi : i < L.length → Op.bytesLess (rd_T70 L (i : Int)).f0.toList key.toList = false
  iff : is = true ↔ (i < L.length ∧ (rd_T70 L (i : Int)).f0 = key)
set_option maxRecDepth 100000 in
set_option maxHeartbeats 2000000 in
theorem map_place {gm : Nat} {most : Int} {L : List Pr} {w : World} (h : Mp gm most L w) (key : ByteArray) {i : Nat} {is : Bool} (hp : PlaceP L key i is) (hL : L.length ≤ 1000000) :
    Calls Try.prog 37 #[.pointer (some ⟨gm, 0, none⟩), .string key] w fun e w' => e = .returned (.tuple #[.int .i64 (i : Int), .bool is]) ∧ Below w.heap.size w w' := by
  obtain ⟨v, hv, hR⟩ := h
  obtain ⟨A, c, rfl⟩ := Kd.R_slice hR
  have HC := Aside0.mk (Kd.R_reads' hR).2.2
  have c0 := (blk_cell hv 0).trans rfl
  have HLn := Aside0.mk hL
  have HP := Aside0.mk hp
  clear hv hR hL hp
  go_enter Try.func37, Try.ntmps37
  go_wp2
  go_loopw [6] (fun v6 w' => ∃ j : Nat, v6 = .int .i64 j ∧ Aside0 (j ≤ i) ∧ w' = w) (fun v6 _ => i - (intOf v6).toNat)
  case atStart => exact ⟨0, rfl, ⟨Nat.zero_le _⟩, rfl⟩
  case round =>
    obtain ⟨j, rfl, HJ, rfl⟩ := hrel
    by_cases hj : j < i
    · have hjl : j < L.length := by have := HP.out.le; omega
      have d2 : decide (j < L.length) = true := decide_eq_true hjl
      obtain ⟨ad, ea, x0, x1⟩ := at_T70 HC.out (j : Int) (by omega) (by omega)
      subst ea
      simp only [Int.toNat_natCast] at x0 x1
      have hl := HP.out.lo j hj
      have DW := Aside0.mk (show wrap64 ((j : Int) + 1) = ((j + 1 : Nat) : Int) by have := HLn.out; unfold wrap64; omega)
      have HJ2 := Aside0.mk hj
      clear hj
      go_wp2
      go_roundw
      case rel => exact ⟨j + 1, by first | rfl | rw [DW.out], ⟨by have := HJ2.out; omega⟩, by first | trivial | rfl⟩
      case measure => (try rw [DW.out]); simp only [intOf]; have := HJ2.out; omega
    · obtain rfl : j = i := by have := HJ.out; omega
      clear hj
      have c0d : wr.drew.cell? ⟨gm, 0, none⟩ = some (.slice A L.length c) := c0
      by_cases hjl : j < L.length
      · have d2 : decide (j < L.length) = true := decide_eq_true hjl
        obtain ⟨ad, ea, x0, x1⟩ := at_T70 HC.out (j : Int) (by omega) (by omega)
        subst ea
        simp only [Int.toNat_natCast] at x0 x1
        have x0d : wr.drew.cell? (ad.add (j * 2)) = some (.string (rd_T70 L (j : Int)).f0) := x0
        have hl := HP.out.hi hjl
        have se := str_eq (rd_T70 L (j : Int)).f0 key
        have q0 := eq_true (show (0 : Int) ≤ (j : Int) by omega)
        have q1 := eq_true (show (j : Int) < (L.length : Int) by omega)
        have q2 := eq_true hjl
        by_cases hk : (rd_T70 L (j : Int)).f0 = key
        · rw [decide_eq_true hk] at se
          obtain rfl : is = true := HP.out.iff.2 ⟨hjl, hk⟩
          clear hk
          go_upto_region 4 with (fail)
          go_region
          all_goals
            go_wp2
            go_ret2
            exact ⟨rfl, by first | exact pw_below_drewN (Below.refl _ _) _ | exact below_drew (Below.refl _ _)⟩
        · rw [decide_eq_false hk] at se
          obtain rfl : is = false := by cases e : is; rfl; exact absurd (HP.out.iff.1 e).2 hk
          clear hk
          go_upto_region 4 with (fail)
          go_region
          all_goals
            go_wp2
            go_ret2
            exact ⟨rfl, by first | exact pw_below_drewN (Below.refl _ _) _ | exact below_drew (Below.refl _ _)⟩
      · have d2 : decide (j < L.length) = false := decide_eq_false hjl
        obtain rfl : is = false := by cases e : is; rfl; exact absurd (HP.out.iff.1 e).1 hjl
        go_upto_region 4 with (fail)
        go_region
        all_goals
          go_wp2
          go_ret2
          exact ⟨rfl, by first | exact pw_below_drewN (Below.refl _ _) _ | exact below_drew (Below.refl _ _)⟩
theorem may_yes {key : ByteArray} (h : 1 ≤ key.size ∧ key.size ≤ 33) : sandglassref05_May.f key = some true := by
  unfold sandglassref05_May.f; rw [if_pos (by omega), decide_eq_true (by omega)]
theorem may_no {key : ByteArray} (h : key.size = 0 ∨ key.size > 33) : sandglassref05_May.f key = some false := by
  unfold sandglassref05_May.f
  by_cases h1 : (key.size : Int) ≥ 1
  · rw [if_pos h1, decide_eq_false (by omega)]
  · rw [if_neg h1]
theorem Mp.cells {gm : Nat} {most : Int} {L : List Pr} {w : World} (h : Mp gm most L w) : ∃ A c, w.cell? ⟨gm, 0, none⟩ = some (.slice A L.length c) ∧ w.cell? ⟨gm, 1, none⟩ = some (.int .i64 most) ∧ Kd.C kP w A L.length L ∧ L.length ≤ c := by
  obtain ⟨v, hv, hR⟩ := h
  obtain ⟨A, c, rfl⟩ := Kd.R_slice hR
  exact ⟨A, c, (blk_cell hv 0).trans rfl, (blk_cell hv 1).trans rfl, (Kd.R_reads' hR).2.2, (Kd.R_reads' hR).2.1⟩
set_option maxRecDepth 100000 in
set_option maxHeartbeats 2000000 in
theorem map_get {gm : Nat} {most : Int} {L : List Pr} {w : World} (h : Mp gm most L w) (key : ByteArray) {i : Nat} {is : Bool} (hp : PlaceP L key i is) (hL : L.length ≤ 1000000) :
    Calls Try.prog 27 #[.pointer (some ⟨gm, 0, none⟩), .string key] w fun e w' => e = .returned (.tuple #[.int .i64 (if is = true then (rd_T70 L (i : Int)).f1 else 0), .bool is]) ∧ Below w.heap.size w w' := by
  have HH := Aside0.mk h
  have HP := Aside0.mk hp
  have HL := Aside0.mk hL
  clear h hp hL
  go_enter Try.func27, Try.ntmps27
  go_upto_region 2 with (go_at_call 37; refine (map_place HH.out key HP.out HL.out).mono ?_; rintro e w1 ⟨rfl, hb⟩; have HB := Aside0.mk hb; replace HH := Aside0.mk (HH.out.below hb); clear hb)
  cases is with
  | false =>
    go_wp2
    go_ret2
    exact ⟨rfl, HB.out⟩
  | true =>
    obtain ⟨A, c, c0, c1, hC, hlc⟩ := HH.out.cells
    have hi := (HP.out.iff.1 rfl).1
    obtain ⟨ad, ea, x0, x1⟩ := at_T70 hC (i : Int) (by omega) (by omega)
    subst ea
    simp only [Int.toNat_natCast] at x0 x1
    clear hC
    go_wp2
    go_ret2
    exact ⟨rfl, HB.out⟩
theorem R_empty {g base : Nat} {W : World} {ok : Nat → Prop} (hg : W.heap[g]? = some (.cells #[] 70 (0, 0))) (hb : base ≤ g) (ho : ok g) : Kd.R kP 70 W base ok (.slice (some ⟨g, 0, none⟩) 0 0) [] := by
  refine ⟨fun k hk => ?_, [], ⟨rfl, Or.inr ⟨g, 0, #[], rfl, hb, hg, Nat.le_refl _, Nat.zero_le _, rfl, rfl⟩⟩, Reps.none _ _⟩
  have : g = k := by simpa [Value.ownBlock] using hk
  subst this
  exact ho
set_option maxRecDepth 100000 in
set_option maxHeartbeats 2000000 in
theorem map_put_new {gm : Nat} {most : Int} {L : List Pr} {w : World} (h : Mp gm most L w) (key : ByteArray) (val : Int) (hk : 1 ≤ key.size ∧ key.size ≤ 33) {i : Nat} (hp : PlaceP L key i false) (hL : L.length ≤ 1000000) (hm : (L.length : Int) < most) :
    Calls Try.prog 26 #[.pointer (some ⟨gm, 0, none⟩), .string key, .int .i64 val] w fun e w' => e = .returned (.int .i64 0) ∧ Mp gm most (L.take i ++ [⟨key, val⟩] ++ L.drop i) w' ∧ Below gm w w' := by
  have HH := Aside0.mk h
  have HP := Aside0.mk hp
  have HL := Aside0.mk hL
  have HM := Aside0.mk (may_yes hk)
  have HGM := Aside0.mk (show gm < w.heap.size by obtain ⟨v_, hv_, _⟩ := h; exact blk_lt hv_)
  have inf : (Try.prog.info? 70).map (fun i => (i.zero, i.size, i.bytes)) = some (some (.agg #[(.string ⟨#[]⟩), (.int .i64 0)]), kP.sz, 24) := by kernel_rfl
  have dm : decide (most ≤ (L.length : Int)) = false := decide_eq_false (by omega)
  obtain ⟨L7, hL7⟩ : ∃ L7, L.take i ++ [(⟨key, val⟩ : Pr)] ++ L.drop i = L7 := ⟨_, rfl⟩
  rw [hL7]
  have HL7 := Aside0.mk hL7
  clear h hp hL hk hL7
  go_enter Try.func26, Try.ntmps26
  go_upto_region 3 with (go_at_call 36; refine (sandglassref05_May.calls key _ _ HM.out).mono ?_; rintro e w1 ⟨rfl, hd⟩; have HB := Aside0.mk hd.below; replace HH := Aside0.mk (HH.out.below hd.below); clear hd)
  go_upto_region 4 with (go_at_call 37; refine (map_place HH.out key HP.out HL.out).mono ?_; rintro e w2 ⟨rfl, hb⟩; replace HB := Aside0.mk (HB.out.trans (hb.mono HB.out.size)); replace HH := Aside0.mk (HH.out.below hb); clear hb)
  obtain ⟨A, c, c0, c1, hC, hlc⟩ := HH.out.cells
  have c0d : w2.drew.cell? ⟨gm, 0, none⟩ = some (.slice A L.length c) := c0
  have c1d : w2.drew.cell? ⟨gm, 1, none⟩ = some (.int .i64 most) := c1
  have HC := Aside0.mk hC
  have q0 := eq_true (show (0 : Int) ≤ (i : Int) by omega)
  have hic : i ≤ c := by have := HP.out.le; omega
  have q1 := eq_true (show (i : Int) ≤ (c : Int) by omega)
  have q2 : decide (i ≤ c) = true := decide_eq_true hic
  have HLC := Aside0.mk hlc
  clear hC hlc
  go_upto_region 7 with (fail)
  go_region
  all_goals
    go_upto_region 9 with (fail)
    have c0a : (w2.alloc (.cells #[] 70)).cell? ⟨gm, 0, none⟩ = some (.slice A L.length c) := pw_cell_below (below_alloc (Below.refl _ _) _) c0
    have HC2 := Aside0.mk (show Kd.C kP (w2.alloc (.cells #[] 70)) A i (L.take i) from by have := Kd.C_take (Kd.C_below HC.out (below_alloc (Below.refl _ _) (.cells #[] 70))) HP.out.le; rwa [List.length_take, Nat.min_eq_left HP.out.le] at this)
    have HE := Aside0.mk (R_empty (ok := fun k => w2.heap.size ≤ k) (blk_new w2 (.cells #[] 70)) (Nat.le_refl _) (Nat.le_refl _))
    have HBa := Aside0.mk (below_alloc (Below.refl w2.heap.size w2) (.cells #[] 70))
    have HTL := Aside0.mk (show (L.take i).length ≤ 1000000 by rw [List.length_take]; have := HL.out; omega)
    go_upto_region 10 with (((with_reducible refine gate_builtin (b := .append) (xs := #[.tmp 38, .tmp 44]) rfl ?_); at_builtin; refine Kd.R_append_rows kP (w0 := w2) w2.heap.size rfl (.tmp 38) (.tmp 44) 37 70 (.agg #[(.string ⟨#[]⟩), (.int .i64 0)]) 24 rfl Try.underlying37 inf rfl (by decide) (by omega) (.slice (some ⟨w2.heap.size, 0, none⟩) 0 0) [] (L.take i) A i c (fun k_ => w2.heap.size ≤ k_) (fun _ => False) rfl rfl HE.out HC2.out (fun _ _ h => h) (fun _ h => h.elim) (fun _ hk => Nat.le_trans HBa.out.size hk) (by first | exact HBa.out | exact below_drew HBa.out) HBa.out.size (by have := HL.out; have := HP.out.le; show (0 + i) * 24 ≤ 140737488355328; omega) ?_; intro v5 w5 ho hb5 hg5 hat5; have HO5 := Aside0.mk ho; have HB5 := Aside0.mk hb5; clear ho hb5 hg5 hat5 c0a))
    clear HE HC2 HBa
    go_upto_region 11 with (((with_reducible refine gate_builtin (b := .append) (xs := #[.tmp 46, .tmp 50]) rfl ?_); at_builtin; refine Kd.R_append kP (w0 := w2) w2.heap.size rfl (.tmp 46) (.tmp 50) 37 70 (.agg #[(.string ⟨#[]⟩), (.int .i64 0)]) 24 rfl Try.underlying37 inf rfl (by decide) (by omega) v5 (L.take i) (⟨key, val⟩ : Pr) [.string key, .int .i64 val] (fun k_ => w2.heap.size ≤ k_) (fun _ => False) rfl rfl (k70_mkM _ _ _ _) (fun _ h => h.elim) (fun _ hk => Nat.le_trans HB5.out.size hk) HO5.out HB5.out HB5.out.size (by have := HTL.out; omega) ?_; intro v6 w6 ho hb6 hg6 hat6; have HO6 := Aside0.mk ho; have HB6 := Aside0.mk hb6; clear ho hb6 hg6 hat6))
    have c06 : w6.cell? ⟨gm, 0, none⟩ = some (.slice A L.length c) := pw_cell_below HB6.out c0
    have c06d : w6.drew.cell? ⟨gm, 0, none⟩ = some (.slice A L.length c) := c06
    have q3 : decide (i ≤ L.length) = true := decide_eq_true HP.out.le
    have z6 : w6.frozen? ⟨gm, 0, none⟩ = false := by obtain ⟨v_, hv_, _⟩ := HH.out; exact blk_frozen (blk_below hv_ HB6.out) 0
    have HC6 := Aside0.mk (Kd.C_drop (Kd.C_below HC.out HB6.out) HP.out.le HLC.out)
    have q4 := eq_true HP.out.le
    by_cases hci : c = i
    · subst hci
      go_upto_region 12 with (((with_reducible refine gate_builtin (b := .append) (xs := #[.tmp 53, .tmp 59]) rfl ?_); at_builtin; refine Kd.R_append_rows kP (w0 := w2) w2.heap.size rfl (.tmp 53) (.tmp 59) 37 70 (.agg #[(.string ⟨#[]⟩), (.int .i64 0)]) 24 rfl Try.underlying37 inf rfl (by decide) (by omega) v6 _ (L.drop c) _ _ _ (fun k_ => w2.heap.size ≤ k_) (fun _ => False) rfl rfl HO6.out (by have := HC6.out; rw [if_pos rfl, List.length_drop] at this; exact this) (fun _ _ h => h) (fun _ h => h.elim) (fun _ hk => Nat.le_trans HB6.out.size hk) (by first | exact HB6.out | exact below_drew HB6.out) HB6.out.size (by have := HL.out; have := HTL.out; simp; omega) ?_; intro v7 w7 ho hb7 hg7 hat7; replace ho : Kd.R kP 70 w7 w2.heap.size (fun k_ => w2.heap.size ≤ k_) v7 L7 := (by rw [← HL7.out]; exact ho); obtain ⟨A7, c7, rfl⟩ := Kd.R_slice ho; have HO7 := Aside0.mk ho; have HB7 := Aside0.mk hb7; have c07 : w7.cell? ⟨gm, 0, none⟩ = _ := pw_cell_below hb7 c0; have z7 : w7.frozen? ⟨gm, 0, none⟩ = false := (by obtain ⟨v_, hv_, _⟩ := HH.out; exact blk_frozen (blk_below hv_ hb7) 0); clear ho hb7 hg7 hat7))
      go_wp2
      go_ret
      have hgm : gm < w2.heap.size := by obtain ⟨v_, hv_, _⟩ := HH.out; exact blk_lt hv_
      refine ⟨rfl, ⟨.slice A7 L7.length c7, ?_, ?_⟩, ?_⟩
      · obtain ⟨v_, hv_, _⟩ := HH.out
        exact blk_put (blk_below hv_ HB7.out) 0 _ rfl
      · have := Kd.R_far (p := ⟨gm, 0, none⟩) HO7.out (fun k hk => by have : w2.heap.size ≤ k := hk; show k ≠ gm; omega) (.slice A7 L7.length c7)
        exact Kd.R_mono (Kd.R_lower this (by omega)) (fun k hk => by have h9 : w2.heap.size ≤ k := hk; show gm < k; omega)
      · have hgw : gm ≤ w.heap.size := Nat.le_of_lt HGM.out
        exact ((HB.out.mono hgw).trans (HB7.out.mono (by omega))).setCell (Nat.le_refl gm) _
    · have hcn : (c = i) = False := eq_false hci
      go_upto_region 12 with (((with_reducible refine gate_builtin (b := .append) (xs := #[.tmp 53, .tmp 59]) rfl ?_); at_builtin; refine Kd.R_append_rows kP (w0 := w2) w2.heap.size rfl (.tmp 53) (.tmp 59) 37 70 (.agg #[(.string ⟨#[]⟩), (.int .i64 0)]) 24 rfl Try.underlying37 inf rfl (by decide) (by omega) v6 _ (L.drop i) _ _ _ (fun k_ => w2.heap.size ≤ k_) (fun _ => False) rfl rfl HO6.out (by have := HC6.out; rw [if_neg hci, List.length_drop] at this; exact this) (fun _ _ h => h) (fun _ h => h.elim) (fun _ hk => Nat.le_trans HB6.out.size hk) (by first | exact HB6.out | exact below_drew HB6.out) HB6.out.size (by have := HL.out; have := HTL.out; simp; omega) ?_; intro v7 w7 ho hb7 hg7 hat7; replace ho : Kd.R kP 70 w7 w2.heap.size (fun k_ => w2.heap.size ≤ k_) v7 L7 := (by rw [← HL7.out]; exact ho); obtain ⟨A7, c7, rfl⟩ := Kd.R_slice ho; have HO7 := Aside0.mk ho; have HB7 := Aside0.mk hb7; have c07 : w7.cell? ⟨gm, 0, none⟩ = _ := pw_cell_below hb7 c0; have z7 : w7.frozen? ⟨gm, 0, none⟩ = false := (by obtain ⟨v_, hv_, _⟩ := HH.out; exact blk_frozen (blk_below hv_ hb7) 0); clear ho hb7 hg7 hat7))
      go_wp2
      go_ret
      have hgm : gm < w2.heap.size := by obtain ⟨v_, hv_, _⟩ := HH.out; exact blk_lt hv_
      refine ⟨rfl, ⟨.slice A7 L7.length c7, ?_, ?_⟩, ?_⟩
      · obtain ⟨v_, hv_, _⟩ := HH.out
        exact blk_put (blk_below hv_ HB7.out) 0 _ rfl
      · have := Kd.R_far (p := ⟨gm, 0, none⟩) HO7.out (fun k hk => by have : w2.heap.size ≤ k := hk; show k ≠ gm; omega) (.slice A7 L7.length c7)
        exact Kd.R_mono (Kd.R_lower this (by omega)) (fun k hk => by have h9 : w2.heap.size ≤ k := hk; show gm < k; omega)
      · have hgw : gm ≤ w.heap.size := Nat.le_of_lt HGM.out
        exact ((HB.out.mono hgw).trans (HB7.out.mono (by omega))).setCell (Nat.le_refl gm) _
end Go.Proofs.Ytonafabgbkohlaa.La


namespace Go.Proofs.Ytonafabgbkohlaa.La
open Go.RowKit Go.Proofs.Ytonafabgbkohlaa.Zip Go.Proofs.YtonafabgbkohlaaW.PrintWords Go.Proofs.YtonafabgbkohlaaW.PrintLast Go.Proofs.YtonafabgbkohlaaW.PrintMore Go.Proofs.Ytonafabgbkohlaa.Q
set_option linter.unusedSimpArgs false
set_option linter.unusedVariables false
set_option maxRecDepth 100000 in
set_option maxHeartbeats 2000000 in
theorem map_put_bad {gm : Nat} {most : Int} {L : List Pr} {w : World} (h : Mp gm most L w) (key : ByteArray) (val : Int) (hk : key.size = 0 ∨ key.size > 33) :
    Calls Try.prog 26 #[.pointer (some ⟨gm, 0, none⟩), .string key, .int .i64 val] w fun e w' => e = .returned (.int .i64 1) ∧ Mp gm most L w' ∧ Below gm w w' := by
  have HH := Aside0.mk h
  have HM := Aside0.mk (may_no hk)
  have HGM := Aside0.mk (show gm < w.heap.size by obtain ⟨v_, hv_, _⟩ := h; exact blk_lt hv_)
  clear h hk
  go_enter Try.func26, Try.ntmps26
  go_upto_region 2 with (go_at_call 36; refine (sandglassref05_May.calls key _ _ HM.out).mono ?_; rintro e w1 ⟨rfl, hd⟩; have HB := Aside0.mk hd.below; replace HH := Aside0.mk (HH.out.below hd.below); clear hd)
  go_wp2
  go_ret
  exact ⟨rfl, HH.out, HB.out.mono (Nat.le_of_lt HGM.out)⟩
set_option maxRecDepth 100000 in
set_option maxHeartbeats 2000000 in
theorem map_put_full {gm : Nat} {most : Int} {L : List Pr} {w : World} (h : Mp gm most L w) (key : ByteArray) (val : Int) (hk : 1 ≤ key.size ∧ key.size ≤ 33) {i : Nat} (hp : PlaceP L key i false) (hL : L.length ≤ 1000000) (hm : most ≤ (L.length : Int)) :
    Calls Try.prog 26 #[.pointer (some ⟨gm, 0, none⟩), .string key, .int .i64 val] w fun e w' => e = .returned (.int .i64 4) ∧ Mp gm most L w' ∧ Below gm w w' := by
  have HH := Aside0.mk h
  have HP := Aside0.mk hp
  have HL := Aside0.mk hL
  have HM := Aside0.mk (may_yes hk)
  have HGM := Aside0.mk (show gm < w.heap.size by obtain ⟨v_, hv_, _⟩ := h; exact blk_lt hv_)
  have dm : decide (most ≤ (L.length : Int)) = true := decide_eq_true (by omega)
  clear h hp hL hk
  go_enter Try.func26, Try.ntmps26
  go_upto_region 3 with (go_at_call 36; refine (sandglassref05_May.calls key _ _ HM.out).mono ?_; rintro e w1 ⟨rfl, hd⟩; have HB := Aside0.mk hd.below; replace HH := Aside0.mk (HH.out.below hd.below); clear hd)
  go_upto_region 4 with (go_at_call 37; refine (map_place HH.out key HP.out HL.out).mono ?_; rintro e w2 ⟨rfl, hb⟩; replace HB := Aside0.mk (HB.out.trans (hb.mono HB.out.size)); replace HH := Aside0.mk (HH.out.below hb); clear hb)
  obtain ⟨A, c, c0, c1, hC, hlc⟩ := HH.out.cells
  have c0d : w2.drew.cell? ⟨gm, 0, none⟩ = some (.slice A L.length c) := c0
  have c1d : w2.drew.cell? ⟨gm, 1, none⟩ = some (.int .i64 most) := c1
  clear hC hlc
  go_upto_region 7 with (fail)
  go_region
  all_goals
    go_wp2
    go_ret
    exact ⟨rfl, by first | exact HH.out | exact HH.out.drew, by first | exact HB.out.mono (Nat.le_of_lt HGM.out) | exact below_drew (HB.out.mono (Nat.le_of_lt HGM.out))⟩
theorem R_put1 {W : World} {base : Nat} {ok : Nat → Prop} {g n cap : Nat} {xs : List Pr} (HO : Kd.R kP 70 W base ok (.slice (some ⟨g, 0, none⟩) n cap) xs) (i : Nat) (h1 : i < n) (val : Int) :
    Kd.R kP 70 (W.setCell ⟨g, i * 2 + 1, none⟩ (.int .i64 val)) base ok (.slice (some ⟨g, 0, none⟩) n cap) (xs.set i ⟨(rd_T70 xs (i : Int)).f0, val⟩) := by
  have hr := Kd.R_reads' HO
  obtain ⟨ad, c, e, hcl, hK, hc⟩ := Kd.C_get hr.2.2 z70 (i : Int) (by omega) (by omega)
  cases e
  have hko := k70_open hK
  have := Kd.R_seg (okp := fun k => ok k ∧ k ≠ g) (j := 1) (seg := [.int .i64 val]) (x' := (⟨(rd_T70 xs (i : Int)).f0, val⟩ : Pr)) HO (i : Int) (by omega) (by omega) hcl (fun j u hj => by have := hc j u hj; rw [add_plain] at this; exact this) (by show 1 + 1 ≤ 2; omega) (by
    rw [hko]
    exact k70_mkM W base _ _) (fun k hk => hk)
  rw [Int.toNat_natCast] at this
  exact this.1
set_option maxRecDepth 100000 in
set_option maxHeartbeats 2000000 in
theorem map_put_old {gm : Nat} {most : Int} {L : List Pr} {w : World} (h : Mp gm most L w) (key : ByteArray) (val : Int) (hk : 1 ≤ key.size ∧ key.size ≤ 33) {i : Nat} (hp : PlaceP L key i true) (hL : L.length ≤ 1000000) :
    Calls Try.prog 26 #[.pointer (some ⟨gm, 0, none⟩), .string key, .int .i64 val] w fun e w' => e = .returned (.int .i64 0) ∧ Mp gm most (L.set i ⟨(rd_T70 L (i : Int)).f0, val⟩) w' ∧ Below gm w w' := by
  have HH := Aside0.mk h
  have HP := Aside0.mk hp
  have HL := Aside0.mk hL
  have HM := Aside0.mk (may_yes hk)
  have HGM := Aside0.mk (show gm < w.heap.size by obtain ⟨v_, hv_, _⟩ := h; exact blk_lt hv_)
  clear h hp hL hk
  go_enter Try.func26, Try.ntmps26
  go_upto_region 3 with (go_at_call 36; refine (sandglassref05_May.calls key _ _ HM.out).mono ?_; rintro e w1 ⟨rfl, hd⟩; have HB := Aside0.mk hd.below; replace HH := Aside0.mk (HH.out.below hd.below); clear hd)
  go_upto_region 4 with (go_at_call 37; refine (map_place HH.out key HP.out HL.out).mono ?_; rintro e w2 ⟨rfl, hb⟩; replace HB := Aside0.mk (HB.out.trans (hb.mono HB.out.size)); replace HH := Aside0.mk (HH.out.below hb); clear hb)
  have hi := (HP.out.iff.1 rfl).1
  obtain ⟨v, hv, hR⟩ := HH.out
  obtain ⟨g, cap, rfl, hbg, hlg, cells, hcs⟩ := Kd.R_form hR (by omega)
  have c0 := (blk_cell hv 0).trans rfl
  obtain ⟨ad, ea, x0, x1⟩ := at_T70 (Kd.R_reads' hR).2.2 (i : Int) (by omega) (by omega)
  cases ea
  simp only [Int.toNat_natCast] at x0 x1
  rw [add_plain] at x0 x1
  have z1 : w2.frozen? ⟨g, i * 2 + 1, none⟩ = false := blk_frozen hcs _
  have HRS := Aside0.mk (R_put1 hR i hi val)
  have HV := Aside0.mk hv
  have q0 := eq_true hi
  have HI := Aside0.mk hi
  have HBG := Aside0.mk hbg
  clear hv hR hcs hbg hlg
  go_wp2
  go_ret
  refine ⟨rfl, ⟨.slice (some ⟨g, 0, none⟩) L.length cap, blk_far HV.out (by have := HBG.out; show gm ≠ g; omega) _, ?_⟩, ?_⟩
  · exact HRS.out
  · exact ((HB.out.mono (Nat.le_of_lt HGM.out))).setCell (by have := HBG.out; show gm ≤ g; omega) _
set_option maxRecDepth 100000 in
set_option maxHeartbeats 2000000 in
theorem map_del_no {gm : Nat} {most : Int} {L : List Pr} {w : World} (h : Mp gm most L w) (key : ByteArray) {i : Nat} (hp : PlaceP L key i false) (hL : L.length ≤ 1000000) :
    Calls Try.prog 28 #[.pointer (some ⟨gm, 0, none⟩), .string key] w fun e w' => e = .returned (.bool false) ∧ Mp gm most L w' ∧ Below gm w w' := by
  have HH := Aside0.mk h
  have HP := Aside0.mk hp
  have HL := Aside0.mk hL
  have HGM := Aside0.mk (show gm < w.heap.size by obtain ⟨v_, hv_, _⟩ := h; exact blk_lt hv_)
  clear h hp hL
  go_enter Try.func28, Try.ntmps28
  go_upto_region 2 with (go_at_call 37; refine (map_place HH.out key HP.out HL.out).mono ?_; rintro e w2 ⟨rfl, hb⟩; have HB := Aside0.mk hb; replace HH := Aside0.mk (HH.out.below hb); clear hb)
  go_wp2
  go_ret
  exact ⟨rfl, HH.out, HB.out.mono (Nat.le_of_lt HGM.out)⟩
set_option maxRecDepth 100000 in
set_option maxHeartbeats 2000000 in
theorem map_del_yes {gm : Nat} {most : Int} {L : List Pr} {w : World} (h : Mp gm most L w) (key : ByteArray) {i : Nat} (hp : PlaceP L key i true) (hL : L.length ≤ 1000000) :
    Calls Try.prog 28 #[.pointer (some ⟨gm, 0, none⟩), .string key] w fun e w' => e = .returned (.bool true) ∧ Mp gm most (L.take i ++ L.drop (i + 1)) w' ∧ Below gm w w' := by
  have HH := Aside0.mk h
  have HP := Aside0.mk hp
  have HL := Aside0.mk hL
  have HGM := Aside0.mk (show gm < w.heap.size by obtain ⟨v_, hv_, _⟩ := h; exact blk_lt hv_)
  have inf : (Try.prog.info? 70).map (fun i => (i.zero, i.size, i.bytes)) = some (some (.agg #[(.string ⟨#[]⟩), (.int .i64 0)]), kP.sz, 24) := by kernel_rfl
  obtain ⟨L7, hL7⟩ : ∃ L7, L.take i ++ L.drop (i + 1) = L7 := ⟨_, rfl⟩
  rw [hL7]
  have HL7 := Aside0.mk hL7
  clear h hp hL hL7
  go_enter Try.func28, Try.ntmps28
  go_upto_region 2 with (go_at_call 37; refine (map_place HH.out key HP.out HL.out).mono ?_; rintro e w2 ⟨rfl, hb⟩; have HB := Aside0.mk hb; replace HH := Aside0.mk (HH.out.below hb); clear hb)
  go_upto_region 4 with (fail)
  obtain ⟨A, c, c0, c1, hC, hlc⟩ := HH.out.cells
  have c0d : w2.drew.cell? ⟨gm, 0, none⟩ = some (.slice A L.length c) := c0
  have HC := Aside0.mk hC
  have hil := (HP.out.iff.1 rfl).1
  have HIL := Aside0.mk hil
  have q0 := eq_true (show (0 : Int) ≤ (i : Int) by omega)
  have hic : i ≤ c := by omega
  have q1 := eq_true (show (i : Int) ≤ (c : Int) by omega)
  have q2 : decide (i ≤ c) = true := decide_eq_true hic
  have HLC := Aside0.mk hlc
  clear hC hlc
  have c0a : (w2.alloc (.cells #[] 70)).cell? ⟨gm, 0, none⟩ = some (.slice A L.length c) := pw_cell_below (below_alloc (Below.refl _ _) _) c0
  have HC2 := Aside0.mk (show Kd.C kP (w2.alloc (.cells #[] 70)) A i (L.take i) from by have := Kd.C_take (Kd.C_below HC.out (below_alloc (Below.refl _ _) (.cells #[] 70))) HP.out.le; rwa [List.length_take, Nat.min_eq_left HP.out.le] at this)
  have HE := Aside0.mk (R_empty (ok := fun k => w2.heap.size ≤ k) (blk_new w2 (.cells #[] 70)) (Nat.le_refl _) (Nat.le_refl _))
  have HBa := Aside0.mk (below_alloc (Below.refl w2.heap.size w2) (.cells #[] 70))
  have HTL := Aside0.mk (show (L.take i).length ≤ 1000000 by rw [List.length_take]; have := HL.out; omega)
  go_upto_region 5 with (((with_reducible refine gate_builtin (b := .append) (xs := #[.tmp 16, .tmp 22]) rfl ?_); at_builtin; refine Kd.R_append_rows kP (w0 := w2) w2.heap.size rfl (.tmp 16) (.tmp 22) 37 70 (.agg #[(.string ⟨#[]⟩), (.int .i64 0)]) 24 rfl Try.underlying37 inf rfl (by decide) (by omega) (.slice (some ⟨w2.heap.size, 0, none⟩) 0 0) [] (L.take i) A i c (fun k_ => w2.heap.size ≤ k_) (fun _ => False) rfl rfl HE.out HC2.out (fun _ _ h => h) (fun _ h => h.elim) (fun _ hk => Nat.le_trans HBa.out.size hk) (by first | exact HBa.out | exact below_drew HBa.out) HBa.out.size (by have := HL.out; have := HP.out.le; show (0 + i) * 24 ≤ 140737488355328; omega) ?_; intro v5 w5 ho hb5 hg5 hat5; have HO5 := Aside0.mk ho; have HB5 := Aside0.mk hb5; clear ho hb5 hg5 hat5 c0a))
  clear HE HC2 HBa
  have c06 : w5.cell? ⟨gm, 0, none⟩ = some (.slice A L.length c) := pw_cell_below HB5.out c0
  have c06d : w5.drew.cell? ⟨gm, 0, none⟩ = some (.slice A L.length c) := c06
  have z6 : w5.frozen? ⟨gm, 0, none⟩ = false := by obtain ⟨v_, hv_, _⟩ := HH.out; exact blk_frozen (blk_below hv_ HB5.out) 0
  obtain ⟨m, hm1⟩ : ∃ m, m = i + 1 := ⟨_, rfl⟩
  have HM1 := Aside0.mk hm1
  have hml : m ≤ L.length := by have := HIL.out; omega
  have wm : wrap64 ((i : Int) + 1) = (m : Int) := by have := HL.out; unfold wrap64; omega
  rw [← hm1] at HL7
  have HC5 := Aside0.mk (Kd.C_drop (Kd.C_below HC.out HB5.out) hml HLC.out)
  have q4 := eq_true hml
  clear hm1 hic hil
  by_cases hci : c = m
  · have hcn : (c = m) = True := eq_true hci
    go_upto_region 6 with (((with_reducible refine gate_builtin (b := .append) (xs := #[.tmp 25, .tmp 32]) rfl ?_); at_builtin; refine Kd.R_append_rows kP (w0 := w2) w2.heap.size rfl (.tmp 25) (.tmp 32) 37 70 (.agg #[(.string ⟨#[]⟩), (.int .i64 0)]) 24 rfl Try.underlying37 inf rfl (by decide) (by omega) v5 _ (L.drop m) _ _ _ (fun k_ => w2.heap.size ≤ k_) (fun _ => False) rfl rfl HO5.out (by have := HC5.out; rw [if_pos hci, List.length_drop] at this; exact this) (fun _ _ h => h) (fun _ h => h.elim) (fun _ hk => Nat.le_trans HB5.out.size hk) (by first | exact HB5.out | exact below_drew HB5.out) HB5.out.size (by have := HL.out; have := HTL.out; simp; omega) ?_; intro v7 w7 ho hb7 hg7 hat7; replace ho : Kd.R kP 70 w7 w2.heap.size (fun k_ => w2.heap.size ≤ k_) v7 L7 := (by rw [← HL7.out]; exact ho); obtain ⟨A7, c7, rfl⟩ := Kd.R_slice ho; have HO7 := Aside0.mk ho; have HB7 := Aside0.mk hb7; have c07 : w7.cell? ⟨gm, 0, none⟩ = _ := pw_cell_below hb7 c0; have z7 : w7.frozen? ⟨gm, 0, none⟩ = false := (by obtain ⟨v_, hv_, _⟩ := HH.out; exact blk_frozen (blk_below hv_ hb7) 0); clear ho hb7 hg7 hat7))
    go_wp2
    go_ret
    have hgm : gm < w2.heap.size := by obtain ⟨v_, hv_, _⟩ := HH.out; exact blk_lt hv_
    refine ⟨rfl, ⟨.slice A7 L7.length c7, ?_, ?_⟩, ?_⟩
    · obtain ⟨v_, hv_, _⟩ := HH.out
      exact blk_put (blk_below hv_ HB7.out) 0 _ rfl
    · have := Kd.R_far (p := ⟨gm, 0, none⟩) HO7.out (fun k hk => by have : w2.heap.size ≤ k := hk; show k ≠ gm; omega) (.slice A7 L7.length c7)
      exact Kd.R_mono (Kd.R_lower this (by omega)) (fun k hk => by have h9 : w2.heap.size ≤ k := hk; show gm < k; omega)
    · have hgw : gm ≤ w.heap.size := Nat.le_of_lt HGM.out
      exact ((HB.out.mono hgw).trans (HB7.out.mono (by omega))).setCell (Nat.le_refl gm) _
  · have hcn : (c = m) = False := eq_false hci
    go_upto_region 6 with (((with_reducible refine gate_builtin (b := .append) (xs := #[.tmp 25, .tmp 32]) rfl ?_); at_builtin; refine Kd.R_append_rows kP (w0 := w2) w2.heap.size rfl (.tmp 25) (.tmp 32) 37 70 (.agg #[(.string ⟨#[]⟩), (.int .i64 0)]) 24 rfl Try.underlying37 inf rfl (by decide) (by omega) v5 _ (L.drop m) _ _ _ (fun k_ => w2.heap.size ≤ k_) (fun _ => False) rfl rfl HO5.out (by have := HC5.out; rw [if_neg hci, List.length_drop] at this; exact this) (fun _ _ h => h) (fun _ h => h.elim) (fun _ hk => Nat.le_trans HB5.out.size hk) (by first | exact HB5.out | exact below_drew HB5.out) HB5.out.size (by have := HL.out; have := HTL.out; simp; omega) ?_; intro v7 w7 ho hb7 hg7 hat7; replace ho : Kd.R kP 70 w7 w2.heap.size (fun k_ => w2.heap.size ≤ k_) v7 L7 := (by rw [← HL7.out]; exact ho); obtain ⟨A7, c7, rfl⟩ := Kd.R_slice ho; have HO7 := Aside0.mk ho; have HB7 := Aside0.mk hb7; have c07 : w7.cell? ⟨gm, 0, none⟩ = _ := pw_cell_below hb7 c0; have z7 : w7.frozen? ⟨gm, 0, none⟩ = false := (by obtain ⟨v_, hv_, _⟩ := HH.out; exact blk_frozen (blk_below hv_ hb7) 0); clear ho hb7 hg7 hat7))
    go_wp2
    go_ret
    have hgm : gm < w2.heap.size := by obtain ⟨v_, hv_, _⟩ := HH.out; exact blk_lt hv_
    refine ⟨rfl, ⟨.slice A7 L7.length c7, ?_, ?_⟩, ?_⟩
    · obtain ⟨v_, hv_, _⟩ := HH.out
      exact blk_put (blk_below hv_ HB7.out) 0 _ rfl
    · have := Kd.R_far (p := ⟨gm, 0, none⟩) HO7.out (fun k hk => by have : w2.heap.size ≤ k := hk; show k ≠ gm; omega) (.slice A7 L7.length c7)
      exact Kd.R_mono (Kd.R_lower this (by omega)) (fun k hk => by have h9 : w2.heap.size ≤ k := hk; show gm < k; omega)
    · have hgw : gm ≤ w.heap.size := Nat.le_of_lt HGM.out
      exact ((HB.out.mono hgw).trans (HB7.out.mono (by omega))).setCell (Nat.le_refl gm) _
set_option maxRecDepth 100000 in
set_option maxHeartbeats 2000000 in
theorem map_keys {gm : Nat} {most : Int} {L : List Pr} {w : World} (h : Mp gm most L w) (hL : L.length ≤ 1000000) :
    Calls Try.prog 18 #[.pointer (some ⟨gm, 0, none⟩)] w fun e w' => ∃ v, e = .returned v ∧ Kd.R Kd.string 9 w' w.heap.size (fun _ => True) v (L.map (fun p => p.f0)) ∧ Below w.heap.size w w' := by
  obtain ⟨A, c, c0, c1, hC, hlc⟩ := h.cells
  have HC := Aside0.mk hC
  have HL := Aside0.mk hL
  have inf : (Try.prog.info? 9).map (fun i => (i.zero, i.size, i.bytes)) = some (some (.string ⟨#[]⟩), Kd.string.sz, 16) := by kernel_rfl
  clear h hC hlc hL
  go_enter Try.func18, Try.ntmps18
  go_wp2
  go_loopw [3, 4] (fun v3 v4 w' => ∃ j : Nat, v4 = .int .i64 j ∧ Aside0 (j ≤ L.length) ∧ Aside0 (Kd.R Kd.string 9 w' w.heap.size (fun _ => True) v3 ((L.take j).map (fun p => p.f0))) ∧ Aside0 (Below w.heap.size w w')) (fun _ v4 _ => L.length - (intOf v4).toNat)
  case atStart => exact ⟨0, rfl, ⟨Nat.zero_le _⟩, ⟨Kd.R_nil _ _ _ _ _⟩, ⟨Below.refl _ _⟩⟩
  case round =>
    obtain ⟨j, rfl, HJ, HO, HB⟩ := hrel
    have c0r : wr.cell? ⟨gm, 0, none⟩ = some (.slice A L.length c) := pw_cell_below HB.out c0
    by_cases hlt : j < L.length
    · have d2 : decide (j < L.length) = true := decide_eq_true hlt
      have HLT := Aside0.mk hlt
      obtain ⟨ad, ea, x0, x1⟩ := at_T70 (Kd.C_below HC.out HB.out) (j : Int) (by omega) (by omega)
      subst ea
      simp only [Int.toNat_natCast] at x0 x1
      obtain ⟨key, hkey⟩ : ∃ key, (rd_T70 L (j : Int)).f0 = key := ⟨_, rfl⟩
      rw [hkey] at x0
      have HK := Aside0.mk (show (L.take (j + 1)).map (fun p => p.f0) = (L.take j).map (fun p => p.f0) ++ [key] by
        rw [List.take_succ_eq_append_getElem hlt, List.map_append]
        congr 1
        rw [← hkey]
        unfold rd_T70
        rw [Int.toNat_natCast, List.getD_eq_getElem?_getD, List.getElem?_eq_getElem hlt]; rfl)
      have HTL := Aside0.mk (show ((L.take j).map (fun p => p.f0)).length ≤ 1000000 by rw [List.length_map, List.length_take]; have := HL.out; omega)
      have DW := Aside0.mk (show wrap64 ((j : Int) + 1) = ((j + 1 : Nat) : Int) by have := HL.out; unfold wrap64; omega)
      have q2 := eq_true hlt
      clear hlt hkey
      go_wp2_with ((with_reducible refine gate_builtin (b := .append) (xs := #[.tmp 14, .tmp 23]) rfl ?_); at_builtin; refine Kd.R_append Kd.string (w0 := w) w.heap.size rfl (.tmp 14) (.tmp 23) 41 9 (.string ⟨#[]⟩) 16 rfl Try.underlying41 inf rfl (by decide) (by omega) u3 ((L.take j).map (fun p => p.f0)) key [.string key] (fun _ => True) (fun _ => False) rfl rfl rfl (fun _ h => h.elim) (fun _ _ => trivial) HO.out HB.out HB.out.size (by have := HTL.out; omega) ?_; intro v6 w6 ho hb6 hg6 hat6; rw [← HK.out] at ho; have HO6 := Aside0.mk ho; have HB6 := Aside0.mk hb6; clear ho hb6 hg6 hat6)
      refine ⟨⟨j + 1, by rw [DW.out], ⟨by have := HLT.out; omega⟩, HO6, HB6⟩, ?_⟩
      rw [DW.out]; simp only [intOf]; have := HLT.out; omega
    · obtain rfl : j = L.length := by have := HJ.out; omega
      have d2 : decide (L.length < L.length) = false := decide_eq_false hlt
      clear hlt
      go_wp2
      go_ret
      exact ⟨_, rfl, by have := HO.out; rwa [List.take_length] at this, HB.out⟩
end Go.Proofs.Ytonafabgbkohlaa.La


namespace Go.Proofs.Ytonafabgbkohlaa.La
open Go.RowKit Go.Proofs.YtonafabgbkohlaaW.PrintWords Go.Proofs.YtonafabgbkohlaaW.PrintLast Go.Proofs.YtonafabgbkohlaaW.PrintMore Go.Proofs.Ytonafabgbkohlaa.Q
set_option linter.unusedSimpArgs false
set_option linter.unusedVariables false
/-- Texts, rising. -/
def tl (a b : ByteArray) : Prop := a.data.toList < b.data.toList
instance (a b : ByteArray) : Decidable (tl a b) := by unfold tl; infer_instance
theorem tl_irr (a : ByteArray) (h : tl a a) : False := List.lt_irrefl _ h
theorem tl_trans {a b c : ByteArray} (h : tl a b) (k : tl b c) : tl a c := List.lt_trans h k
theorem ba_ext {a b : ByteArray} (h : a.data.toList = b.data.toList) : a = b := by
  cases a; cases b; simp at h; rw [h]
theorem tl_tri {a b : ByteArray} (h : ¬ tl a b) (k : a ≠ b) : tl b a := by
  apply Classical.byContradiction
  intro h2
  exact k (ba_ext (List.le_antisymm (List.not_lt.1 h2) (List.not_lt.1 h)))
theorem less_iff (a b : ByteArray) : Op.bytesLess a.toList b.toList = decide (tl a b) := by
  rw [bytesLess_eq, ByteArray.toList_eq, ByteArray.toList_eq]; rfl
def Srt (L : List Pr) : Prop := L.Pairwise (fun p q => tl p.f0 q.f0)
/-- A map's list holds just what f says. -/
structure MS (L : List Pr) (us : Int) (f : KF) : Prop where
  srt : Srt L
  has : ∀ k v, f k = some v ↔ (⟨k, v⟩ : Pr) ∈ L
  len : us = (L.length : Int)
theorem MS.nil : MS [] 0 (fun _ => none) := ⟨List.Pairwise.nil, fun k v => by simp, rfl⟩
theorem rdP_at {L : List Pr} {i : Nat} (h : i < L.length) : rd_T70 L (i : Int) = L[i] := by
  unfold rd_T70
  rw [Int.toNat_natCast, List.getD_eq_getElem?_getD, List.getElem?_eq_getElem h]; rfl
theorem place_ex : ∀ (L : List Pr) (key : ByteArray), ∃ i is, PlaceP L key i is
  | [], key => ⟨0, false, Nat.le_refl _, fun j h => absurd h (Nat.not_lt_zero _), fun h => absurd h (Nat.lt_irrefl _), ⟨fun h => Bool.noConfusion h, fun h => absurd h.1 (Nat.lt_irrefl _)⟩⟩
  | p :: L, key => by
    by_cases h : tl p.f0 key
    · obtain ⟨i, is, h1, h2, h3, h4⟩ := place_ex L key
      have sh : ∀ j : Nat, rd_T70 (p :: L) ((j + 1 : Nat) : Int) = rd_T70 L (j : Int) := fun j => by
        unfold rd_T70
        rw [Int.toNat_natCast, Int.toNat_natCast]; rfl
      refine ⟨i + 1, is, by simpa using h1, fun j hj => ?_, fun hl => ?_, ?_⟩
      · cases j with
        | zero => rw [less_iff]; exact decide_eq_true h
        | succ j => rw [sh]; exact h2 j (by omega)
      · rw [sh]; exact h3 (by simpa using hl)
      · rw [sh, h4]; simp
    · refine ⟨0, decide (p.f0 = key), Nat.zero_le _, fun j h => absurd h (Nat.not_lt_zero _), fun _ => ?_, ?_⟩
      · rw [less_iff]; exact decide_eq_false h
      · rw [decide_eq_true_iff]; exact ⟨fun e => ⟨by simp, e⟩, fun e => e.2⟩
theorem split_no {L : List Pr} {key : ByteArray} {i : Nat} (h : Srt L) (hp : PlaceP L key i false) : (∀ p ∈ L.take i, tl p.f0 key) ∧ (∀ p ∈ L.drop i, tl key p.f0) := by
  constructor
  · intro p hm
    obtain ⟨j, hj, e⟩ := List.mem_iff_getElem.1 hm
    rw [List.length_take] at hj
    rw [List.getElem_take] at e
    have := hp.lo j (by omega)
    rw [less_iff, rdP_at (by omega), e] at this
    exact of_decide_eq_true this
  · intro p hm
    have hi : i < L.length := by
      apply Classical.byContradiction; intro h2
      rw [List.drop_of_length_le (by omega)] at hm; cases hm
    have h0 : tl key L[i].f0 := by
      refine tl_tri ?_ ?_
      · have := hp.hi hi
        rw [less_iff, rdP_at hi] at this
        exact of_decide_eq_false this
      · intro e
        have := hp.iff.2 ⟨hi, by rw [rdP_at hi]; exact e⟩
        cases this
    obtain ⟨j, hj, e⟩ := List.mem_iff_getElem.1 hm
    rw [List.getElem_drop] at e
    rw [List.length_drop] at hj
    cases j with
    | zero => rw [← e]; exact h0
    | succ j =>
      have := List.pairwise_iff_getElem.1 h i (i + (j + 1)) hi (by omega) (by omega)
      rw [e] at this
      exact tl_trans h0 this
theorem split_yes {L : List Pr} {key : ByteArray} {i : Nat} (h : Srt L) (hp : PlaceP L key i true) : ∃ v, rd_T70 L (i : Int) = ⟨key, v⟩ ∧ L = L.take i ++ (⟨key, v⟩ : Pr) :: L.drop (i + 1) ∧ (∀ y, L.set i y = L.take i ++ y :: L.drop (i + 1)) ∧ (∀ p ∈ L.take i, tl p.f0 key) ∧ (∀ p ∈ L.drop (i + 1), tl key p.f0) := by
  obtain ⟨hi, hk⟩ := hp.iff.1 rfl
  rw [rdP_at hi] at hk
  have hx : L[i] = ⟨key, L[i].f1⟩ := by
    rcases e : L[i] with ⟨a, b⟩
    rw [e] at hk
    subst hk; rfl
  have hsp : ∀ y : Pr, L.set i y = L.take i ++ y :: L.drop (i + 1) := fun y => List.set_eq_take_append_cons_drop ▸ by rw [if_pos hi]
  have hL : L = L.take i ++ L[i] :: L.drop (i + 1) := by
    have := hsp L[i]
    rwa [List.set_getElem_self] at this
  refine ⟨L[i].f1, by rw [rdP_at hi]; exact hx, by rw [← hx]; exact hL, hsp, ?_, ?_⟩
  · intro p hm
    obtain ⟨j, hj, e⟩ := List.mem_iff_getElem.1 hm
    rw [List.length_take] at hj
    rw [List.getElem_take] at e
    have := hp.lo j (by omega)
    rw [less_iff, rdP_at (by omega), e] at this
    exact of_decide_eq_true this
  · intro p hm
    obtain ⟨j, hj, e⟩ := List.mem_iff_getElem.1 hm
    rw [List.getElem_drop] at e
    rw [List.length_drop] at hj
    have := List.pairwise_iff_getElem.1 h i (i + 1 + j) hi (by omega) (by omega)
    rw [e, hk] at this
    exact this
theorem tl_ne {a b : ByteArray} (h : tl a b) : a ≠ b := fun e => by subst e; exact tl_irr _ h
variable {L : List Pr} {us : Int} {f : KF} {key : ByteArray} {i : Nat}
theorem MS.no (h : MS L us f) (hp : PlaceP L key i false) : f key = none := by
  cases e : f key with
  | none => rfl
  | some v =>
    have hm := (h.has key v).1 e
    obtain ⟨s1, s2⟩ := split_no h.srt hp
    rw [← List.take_append_drop i L, List.mem_append] at hm
    rcases hm with hm | hm
    · exact absurd rfl (tl_ne (s1 _ hm))
    · exact absurd rfl (tl_ne (s2 _ hm))
theorem MS.yes (h : MS L us f) (hp : PlaceP L key i true) : f key = some (rd_T70 L (i : Int)).f1 := by
  obtain ⟨v, h1, h2, _⟩ := split_yes h.srt hp
  rw [h1]
  refine (h.has key v).2 ?_
  rw [h2]; simp
theorem MS.get (h : MS L us f) {is : Bool} (hp : PlaceP L key i is) : getF f key = ((if is = true then (rd_T70 L (i : Int)).f1 else 0), is) := by
  unfold getF
  cases is with
  | false => rw [h.no hp]; rfl
  | true => rw [h.yes hp]; rfl
theorem srt_mid {A B : List Pr} {x : Pr} (hA : Srt A) (hB : Srt B) (h1 : ∀ p ∈ A, tl p.f0 x.f0) (h2 : ∀ p ∈ B, tl x.f0 p.f0) : Srt (A ++ x :: B) := by
  refine List.pairwise_append.2 ⟨hA, List.pairwise_cons.2 ⟨h2, hB⟩, fun a ha b hb => ?_⟩
  rcases List.mem_cons.1 hb with rfl | hb
  · exact h1 a ha
  · exact tl_trans (h1 a ha) (h2 b hb)
theorem MS.put_new (h : MS L us f) (hp : PlaceP L key i false) (val : Int) : MS (L.take i ++ [⟨key, val⟩] ++ L.drop i) (us + 1) (upd f key (some val)) := by
  obtain ⟨s1, s2⟩ := split_no h.srt hp
  have e : L.take i ++ [(⟨key, val⟩ : Pr)] ++ L.drop i = L.take i ++ (⟨key, val⟩ : Pr) :: L.drop i := by simp
  rw [e]
  refine ⟨srt_mid (h.srt.sublist (List.take_sublist _ _)) (h.srt.sublist (List.drop_sublist _ _)) s1 s2, fun q w => ?_, ?_⟩
  · have hm : ∀ p : Pr, p ∈ L.take i ++ (⟨key, val⟩ : Pr) :: L.drop i ↔ p = ⟨key, val⟩ ∨ p ∈ L := fun p => by
      conv => rhs; rw [← List.take_append_drop i L]
      simp only [List.mem_append, List.mem_cons]
      exact ⟨fun h => h.elim (fun x => Or.inr (Or.inl x)) (fun x => x.elim Or.inl (fun y => Or.inr (Or.inr y))), fun h => h.elim (fun x => Or.inr (Or.inl x)) (fun x => x.elim Or.inl (fun y => Or.inr (Or.inr y)))⟩
    rw [hm]
    unfold upd
    by_cases e : q = key
    · subst e
      rw [if_pos rfl]
      constructor
      · intro r; exact Or.inl (by rw [Option.some.inj r])
      · rintro (r | r)
        · have r2 := congrArg (fun z : Pr => z.f1) r
          exact congrArg some (show val = w from r2.symm)
        · have := (h.has q w).2 r
          rw [h.no hp] at this; cases this
    · rw [if_neg e, h.has]
      constructor
      · exact Or.inr
      · rintro (r | r)
        · exact absurd (congrArg (fun z : Pr => z.f0) r) e
        · exact r
  · rw [h.len]
    have := hp.le
    simp only [List.length_append, List.length_take, List.length_cons, List.length_drop]
    omega
theorem MS.put_old (h : MS L us f) (hp : PlaceP L key i true) (val : Int) : MS (L.set i ⟨(rd_T70 L (i : Int)).f0, val⟩) us (upd f key (some val)) := by
  obtain ⟨v, h1, h2, h3, s1, s2⟩ := split_yes h.srt hp
  rw [h1, h3]
  refine ⟨srt_mid (h.srt.sublist (List.take_sublist _ _)) (h.srt.sublist (List.drop_sublist _ _)) s1 s2, fun q w => ?_, ?_⟩
  · simp only [List.mem_append, List.mem_cons]
    unfold upd
    have hh := h.has q w
    rw [h2] at hh
    simp only [List.mem_append, List.mem_cons] at hh
    by_cases e : q = key
    · subst e
      rw [if_pos rfl]
      constructor
      · intro r; exact Or.inr (Or.inl (by rw [Option.some.inj r]))
      · rintro (r | r | r)
        · exact absurd rfl (tl_ne (s1 _ r))
        · have r2 := congrArg (fun z : Pr => z.f1) r
          exact congrArg some (show val = w from r2.symm)
        · exact absurd rfl (tl_ne (s2 _ r))
    · rw [if_neg e, hh]
      constructor
      · rintro (r | r | r)
        · exact Or.inl r
        · exact absurd (congrArg (fun z : Pr => z.f0) r) e
        · exact Or.inr (Or.inr r)
      · rintro (r | r | r)
        · exact Or.inl r
        · exact absurd (congrArg (fun z : Pr => z.f0) r) e
        · exact Or.inr (Or.inr r)
  · rw [h.len, ← h3, List.length_set]
theorem MS.del (h : MS L us f) (hp : PlaceP L key i true) : MS (L.take i ++ L.drop (i + 1)) (us - 1) (upd f key none) := by
  obtain ⟨v, h1, h2, h3, s1, s2⟩ := split_yes h.srt hp
  have hi := (hp.iff.1 rfl).1
  refine ⟨?_, fun q w => ?_, ?_⟩
  · refine h.srt.sublist ?_
    conv => rhs; rw [h2]
    exact List.Sublist.append_left (List.sublist_cons_self _ _) _
  · simp only [List.mem_append]
    unfold upd
    have hh := h.has q w
    rw [h2] at hh
    simp only [List.mem_append, List.mem_cons] at hh
    by_cases e : q = key
    · subst e
      rw [if_pos rfl]
      constructor
      · intro r; cases r
      · rintro (r | r)
        · exact absurd rfl (tl_ne (s1 _ r))
        · exact absurd rfl (tl_ne (s2 _ r))
    · rw [if_neg e, hh]
      constructor
      · rintro (r | r | r)
        · exact Or.inl r
        · exact absurd (congrArg (fun z : Pr => z.f0) r) e
        · exact Or.inr r
      · rintro (r | r)
        · exact Or.inl r
        · exact Or.inr (Or.inr r)
  · rw [h.len]
    simp only [List.length_append, List.length_take, List.length_drop]
    omega
end Go.Proofs.Ytonafabgbkohlaa.La


namespace Go.Proofs.Ytonafabgbkohlaa.La
open Go.RowKit Go.Proofs.YtonafabgbkohlaaW.PrintWords Go.Proofs.YtonafabgbkohlaaW.PrintLast Go.Proofs.YtonafabgbkohlaaW.PrintMore Go.Proofs.Ytonafabgbkohlaa.Q
set_option linter.unusedSimpArgs false
set_option linter.unusedVariables false
/-- A map in memory as a function from keys to values. -/
structure MM (gm b : Nat) (us : Int) (f : KF) (W : World) : Prop where
  b1 : b ≤ 8
  le : us ≤ 2 ^ b
  ko : KeyOk f
  ex : ∃ L, Mp gm ((2 ^ b : Nat) : Int) L W ∧ MS L us f
section
variable {gm b : Nat} {us : Int} {f : KF} {W W' w : World}
theorem MM.below (h : MM gm b us f W) (hb : Below W.heap.size W W') : MM gm b us f W' := by obtain ⟨h1, h2, ko, L, h3, h4⟩ := h; exact ⟨h1, h2, ko, L, h3.below hb, h4⟩
theorem MM.drew (h : MM gm b us f W) : MM gm b us f W.drew := h.below (below_drew (Below.refl _ _))
theorem MM.fr {S : Nat → Prop} (h : MM gm b us f W) (hb : Fr S W W') (hS : ∀ q, S q → q < gm) : MM gm b us f W' := by obtain ⟨h1, h2, ko, L, h3, h4⟩ := h; exact ⟨h1, h2, ko, L, h3.fr hb hS, h4⟩
theorem MM.lt (h : MM gm b us f W) : gm < W.heap.size := by obtain ⟨h1, h2, ko, L, ⟨v_, hv_, _⟩, h4⟩ := h; exact blk_lt hv_
theorem pow_le_256 (h : b ≤ 8) : (2 : Int) ^ b ≤ 256 := by
  have := Nat.pow_le_pow_right (show 0 < 2 by omega) h
  have e : ((2 ^ b : Nat) : Int) = 2 ^ b := by simp
  rw [← e]; omega
theorem MM.len (h : MM gm b us f W) : ∃ L, Mp gm ((2 ^ b : Nat) : Int) L W ∧ MS L us f ∧ L.length ≤ 256 := by
  obtain ⟨h1, h2, ko, L, h3, h4⟩ := h
  have := pow_le_256 h1
  have := h4.len
  exact ⟨L, h3, h4, by omega⟩
theorem mm_new (b : Nat) (w : World) (h0 : 1 ≤ b) (h1 : b ≤ 8) : Calls Try.prog 13 #[.int .i64 (b : Int)] w fun e w' => e = .returned (.tuple #[.pointer (some ⟨w.heap.size, 0, none⟩), .int .i64 0]) ∧ MM w.heap.size b 0 (fun _ => none) w' ∧ Below w.heap.size w w' := by
  refine (map_new b w h0 h1).mono ?_
  rintro e w' ⟨rfl, h, hb⟩
  refine ⟨rfl, ⟨h1, ?_, KeyOk.none, [], h, MS.nil⟩, hb⟩
  have e : ((2 ^ b : Nat) : Int) = 2 ^ b := by simp
  rw [← e]; exact Int.natCast_nonneg _
theorem mm_put (h : MM gm b us f w) (key : ByteArray) (v : Int) {e0 us' : Int} {f' : KF} (hp : putF b f us key v = (e0, us', f')) :
    Calls Try.prog 26 #[.pointer (some ⟨gm, 0, none⟩), .string key, .int .i64 v] w fun e w' => e = .returned (.int .i64 e0) ∧ MM gm b us' f' w' ∧ Below gm w w' := by
  obtain ⟨L, hM, hS, hl⟩ := h.len
  have pe : ((2 ^ b : Nat) : Int) = 2 ^ b := by simp
  have hlen := hS.len
  have HKO := h.ko.put hp
  unfold putF at hp
  by_cases hb : key.size = 0 ∨ key.size > 33
  · rw [if_pos hb] at hp; cases hp
    refine (map_put_bad hM key v hb).mono ?_
    rintro e w' ⟨rfl, k1, k2⟩
    exact ⟨rfl, ⟨h.b1, h.le, HKO, L, k1, hS⟩, k2⟩
  · rw [if_neg hb] at hp
    obtain ⟨i, is, hpl⟩ := place_ex L key
    cases is with
    | true =>
      rw [hS.yes hpl] at hp; cases hp
      refine (map_put_old hM key v (by omega) hpl (by omega)).mono ?_
      rintro e w' ⟨rfl, k1, k2⟩
      exact ⟨rfl, ⟨h.b1, h.le, HKO, _, k1, hS.put_old hpl v⟩, k2⟩
    | false =>
      rw [hS.no hpl] at hp
      by_cases hu : us = 2 ^ b
      · simp only [if_pos hu] at hp; cases hp
        refine (map_put_full hM key v (by omega) hpl (by omega) (by omega)).mono ?_
        rintro e w' ⟨rfl, k1, k2⟩
        exact ⟨rfl, ⟨h.b1, h.le, HKO, L, k1, hS⟩, k2⟩
      · simp only [if_neg hu] at hp; cases hp
        have := h.le
        refine (map_put_new hM key v (by omega) hpl (by omega) (by omega)).mono ?_
        rintro e w' ⟨rfl, k1, k2⟩
        exact ⟨rfl, ⟨h.b1, by omega, HKO, _, k1, hS.put_new hpl v⟩, k2⟩
theorem mm_del (h : MM gm b us f w) (key : ByteArray) {e0 : Bool} {us' : Int} {f' : KF} (hp : delF f us key = (e0, us', f')) :
    Calls Try.prog 28 #[.pointer (some ⟨gm, 0, none⟩), .string key] w fun e w' => e = .returned (.bool e0) ∧ MM gm b us' f' w' ∧ Below gm w w' := by
  obtain ⟨L, hM, hS, hl⟩ := h.len
  have := h.le
  have HKO := h.ko.del hp
  unfold delF at hp
  obtain ⟨i, is, hpl⟩ := place_ex L key
  cases is with
  | true =>
    rw [hS.yes hpl] at hp; cases hp
    refine (map_del_yes hM key hpl (by omega)).mono ?_
    rintro e w' ⟨rfl, k1, k2⟩
    exact ⟨rfl, ⟨h.b1, by omega, HKO, _, k1, hS.del hpl⟩, k2⟩
  | false =>
    rw [hS.no hpl] at hp; cases hp
    refine (map_del_no hM key hpl (by omega)).mono ?_
    rintro e w' ⟨rfl, k1, k2⟩
    exact ⟨rfl, ⟨h.b1, h.le, HKO, L, k1, hS⟩, k2⟩
theorem mm_get (h : MM gm b us f w) (key : ByteArray) {v : Int} {is : Bool} (hp : getF f key = (v, is)) :
    Calls Try.prog 27 #[.pointer (some ⟨gm, 0, none⟩), .string key] w fun e w' => e = .returned (.tuple #[.int .i64 v, .bool is]) ∧ MM gm b us f w' ∧ Below w.heap.size w w' := by
  obtain ⟨L, hM, hS, hl⟩ := h.len
  obtain ⟨i, is2, hpl⟩ := place_ex L key
  have e := (hS.get hpl).symm.trans hp
  have e1 := congrArg Prod.fst e
  have e2 := congrArg Prod.snd e
  simp only at e1 e2
  have G := map_get hM key hpl (by omega)
  rw [e1, e2] at G
  refine G.mono ?_
  rintro e w' ⟨rfl, hb⟩
  exact ⟨rfl, h.below hb, hb⟩
/-- How many keys it has stands in its row's length. -/
theorem MM.cell (h : MM gm b us f w) : ∃ A c, w.cell? ⟨gm, 0, none⟩ = some (.slice A us.toNat c) := by
  obtain ⟨L, hM, hS, hl⟩ := h.len
  obtain ⟨A, c, c0, _⟩ := hM.cells
  have := hS.len
  exact ⟨A, c, by rw [show us.toNat = L.length by omega]; exact c0⟩
end
theorem TT.lt {g gs : Nat} {sd : Int} {b : Nat} {us : Int} {f : KF} {W : World} (h : TT g gs sd b us f W) : g < W.heap.size ∧ gs < W.heap.size := by
  obtain ⟨l, h1, h2⟩ := h; exact ⟨blk_lt h1.hd, blk_lt h1.sl⟩
theorem TT.low {g gs : Nat} {sd : Int} {b : Nat} {us : Int} {f : KF} {W W' : World} {m : Nat} (h : TT g gs sd b us f W) (hb : Below m W W') (h1 : g < m) (h2 : gs < m) : TT g gs sd b us f W' := by
  obtain ⟨l, k1, k2⟩ := h
  have hl := blk_lt k1.hd
  exact ⟨l, ⟨(hb.block g h1).trans k1.hd, (hb.block gs h2).trans k1.sl, k1.ne⟩, k2⟩
/-- An Op in its own block. -/
def OX (q : Nat) (d : Int) (k : ByteArray) (v : Int) (W : World) : Prop := W.heap[q]? = some (.cells #[.int .i64 d, .string k, .int .i64 v] 35 (0, 0))
theorem OX.cells {q : Nat} {d : Int} {k : ByteArray} {v : Int} {W : World} (h : OX q d k v W) : W.cell? ⟨q, 0, none⟩ = some (.int .i64 d) ∧ W.cell? ⟨q, 1, none⟩ = some (.string k) ∧ W.cell? ⟨q, 2, none⟩ = some (.int .i64 v) :=
  ⟨(blk_cell h 0).trans rfl, (blk_cell h 1).trans rfl, (blk_cell h 2).trans rfl⟩
/-- Behind a call of the table, ahead of the map's. -/
structure Mid (n0 g gs gm q : Nat) (sd : Int) (b : Nat) (us us' : Int) (f f' : KF) (dob : Int) (key : ByteArray) (val : Int) (w w3 : World) : Prop where
  t : TT g gs sd b us' f' w3
  m : MM gm b us f w3
  x0 : w3.cell? ⟨q, 0, none⟩ = some (.int .i64 dob)
  x1 : w3.cell? ⟨q, 1, none⟩ = some (.string key)
  x2 : w3.cell? ⟨q, 2, none⟩ = some (.int .i64 val)
  b : Below n0 w w3
  n : n0 ≤ gm ∧ g < gm ∧ gs < gm
def Fin (n0 g gs gm : Nat) (sd : Int) (b : Nat) (w w' : World) : Prop := ∃ us' f', TT g gs sd b us' f' w' ∧ MM gm b us' f' w' ∧ Below n0 w w'
theorem Mid.fin {n0 g gs gm q : Nat} {sd : Int} {b : Nat} {us us' : Int} {f f' : KF} {dob : Int} {key : ByteArray} {val : Int} {w w3 w4 : World} (h : Mid n0 g gs gm q sd b us us' f f' dob key val w w3) (hm : MM gm b us' f' w4) (hb : Below gm w3 w4) : Fin n0 g gs gm sd b w w4 :=
  ⟨us', f', h.t.low hb h.n.2.1 h.n.2.2, hm, h.b.trans (hb.mono h.n.1)⟩
theorem Mid.mk2 {n0 g gs gm q : Nat} {sd : Int} {b : Nat} {us us' : Int} {f f' : KF} {dob : Int} {key : ByteArray} {val : Int} {w W0 w3 : World} (hn : n0 ≤ g ∧ n0 ≤ gs ∧ g < gm ∧ gs < gm) (hq : gm < q) (hB : Below n0 w W0) (hs : n0 ≤ W0.heap.size) (hm : MM gm b us f W0) (hx : OX q dob key val W0) (ht : TT g gs sd b us' f' w3) (hf : Fr (fun q => q = g ∨ q = gs) W0.drew w3) : Mid n0 g gs gm q sd b us us' f f' dob key val w w3 := by
  have hx3 : OX q dob key val w3 := hf.blk (show W0.drew.heap[q]? = _ from hx) (fun hq => by omega)
  refine ⟨ht, hm.drew.fr hf (fun q hq => by omega), hx3.cells.1, hx3.cells.2.1, hx3.cells.2.2, ?_, by omega⟩
  exact hB.trans (((below_drew (Below.refl _ _)).mono hs).trans (hf.below (fun q hq => by omega) hs))
end Go.Proofs.Ytonafabgbkohlaa.La


namespace Go.Proofs.Ytonafabgbkohlaa.La
open Go.RowKit Go.Proofs.Ytonafabgbkohlaa.Zip Go.Proofs.YtonafabgbkohlaaW.PrintWords Go.Proofs.YtonafabgbkohlaaW.PrintLast Go.Proofs.YtonafabgbkohlaaW.PrintMore Go.Proofs.Ytonafabgbkohlaa.Q
set_option linter.unusedSimpArgs false
set_option linter.unusedVariables false
set_option maxRecDepth 100000 in
set_option maxHeartbeats 4000000 in
theorem does_put {g gs gm : Nat} {sd : Int} {b : Nat} {us : Int} {f : KF} {w : World} (n0 : Nat) (hn : n0 ≤ g ∧ n0 ≤ gs ∧ g < gm ∧ gs < gm) (ht : TT g gs sd b us f w) (hm : MM gm b us f w) (val : Int) (key : ByteArray) (hk : key.size ≤ 4611686018427387904) :
    Calls Try.prog 14 #[.pointer (some ⟨g, 0, none⟩), .pointer (some ⟨gm, 0, none⟩), .agg #[.int .i64 0, .string key, .int .i64 val]] w fun e w' => e = .returned (.bool true) ∧ Fin n0 g gs gm sd b w w' := by
  have HN := Aside0.mk hn
  have HSZ := Aside0.mk hk
  have HT := Aside0.mk ht
  have HM := Aside0.mk hm
  have HLT := Aside0.mk (And.intro ht.lt hm.lt)
  clear hn hk ht hm
  go_enter Try.func14, Try.ntmps14
  go_upto_region 1 with (fail)
  obtain ⟨W0, hW0⟩ : ∃ W0, w.alloc (.cells #[.int .i64 0, .string key, .int .i64 val] 35) = W0 := ⟨_, rfl⟩
  rw [hW0]
  have HBX := Aside0.mk (show OX w.heap.size 0 key val W0 from by rw [← hW0]; exact blk_new w _)
  have HB := Aside0.mk (show Below w.heap.size w W0 from by rw [← hW0]; exact (Below.refl w.heap.size w).alloc (Nat.le_refl _) _)
  have HS := Aside0.mk (show W0.heap.size = w.heap.size + 1 from by rw [← hW0]; simp)
  clear hW0
  replace HT := Aside0.mk (HT.out.below HB.out)
  replace HM := Aside0.mk (HM.out.below HB.out)
  obtain ⟨q, hq⟩ : ∃ q, w.heap.size = q := ⟨_, rfl⟩
  have HQ := Aside0.mk (show gm < q ∧ n0 ≤ W0.heap.size by have := HLT.out; have := HN.out; have := HS.out; omega)
  have HB0 := Aside0.mk (show Below n0 w W0 from HB.out.mono (by have := HLT.out; have := HN.out; omega))
  rw [hq] at HBX ⊢
  clear hq HLT HS HB
  obtain ⟨x0, x1, x2⟩ := HBX.out.cells
  have x0d : W0.drew.cell? ⟨q, 0, none⟩ = some (.int .i64 0) := x0
  have x1d : W0.drew.cell? ⟨q, 1, none⟩ = some (.string key) := x1
  have x2d : W0.drew.cell? ⟨q, 2, none⟩ = some (.int .i64 val) := x2
  obtain ⟨e0, us', f', hp⟩ : ∃ e0 us' f', putF b f us key val = (e0, us', f') := ⟨_, _, _, rfl⟩
  have se : (e0 == e0) = true := by simp
  have C1 := Aside0.mk ((tt_put HT.out.drew key val HSZ.out hp).mono (R' := fun e w3 => e = .returned (.int .i64 e0) ∧ Mid n0 g gs gm q sd b us us' f f' 0 key val w w3) (by rintro e w3 ⟨rfl, h1, h2⟩; exact ⟨rfl, Mid.mk2 HN.out HQ.out.1 HB0.out HQ.out.2 HM.out HBX.out h1 h2⟩))
  have C2 := Aside0.mk (fun w3 (h3 : Mid n0 g gs gm q sd b us us' f f' 0 key val w w3) => (mm_put h3.m key val hp).mono (R' := fun e w4 => e = .returned (.int .i64 e0) ∧ Fin n0 g gs gm sd b w w4) (by rintro e w4 ⟨rfl, h1, h2⟩; exact ⟨rfl, h3.fin h1 h2⟩))
  clear hp HN HSZ HT HM HB0 HQ HBX
  go_upto_region 3 with (fail)
  go_region_with (first | (go_at_call 26; refine (C2.out w3 H3.out).mono ?_; rintro e w4 ⟨rfl, h4⟩; have H4 := Aside0.mk h4; clear h4) | (go_at_call 21; refine C1.out.mono ?_; rintro e w3 ⟨rfl, h3⟩; have H3 := Aside0.mk h3; clear h3 x0 x1 x2 x0d x1d x2d; have x0 := H3.out.x0; have x1 := H3.out.x1; have x2 := H3.out.x2))
  all_goals
    go_wp2
    go_ret
    exact ⟨rfl, H4.out⟩
end Go.Proofs.Ytonafabgbkohlaa.La


namespace Go.Proofs.Ytonafabgbkohlaa.La
open Go.RowKit Go.Proofs.Ytonafabgbkohlaa.Zip Go.Proofs.YtonafabgbkohlaaW.PrintWords Go.Proofs.YtonafabgbkohlaaW.PrintLast Go.Proofs.YtonafabgbkohlaaW.PrintMore Go.Proofs.Ytonafabgbkohlaa.Q
set_option linter.unusedSimpArgs false
set_option linter.unusedVariables false
set_option maxRecDepth 100000 in
set_option maxHeartbeats 4000000 in
theorem does_del {g gs gm : Nat} {sd : Int} {b : Nat} {us : Int} {f : KF} {w : World} (n0 : Nat) (hn : n0 ≤ g ∧ n0 ≤ gs ∧ g < gm ∧ gs < gm) (ht : TT g gs sd b us f w) (hm : MM gm b us f w) (val : Int) (key : ByteArray) (hk : key.size ≤ 4611686018427387904) :
    Calls Try.prog 14 #[.pointer (some ⟨g, 0, none⟩), .pointer (some ⟨gm, 0, none⟩), .agg #[.int .i64 2, .string key, .int .i64 val]] w fun e w' => e = .returned (.bool true) ∧ Fin n0 g gs gm sd b w w' := by
  have HN := Aside0.mk hn
  have HSZ := Aside0.mk hk
  have HT := Aside0.mk ht
  have HM := Aside0.mk hm
  have HLT := Aside0.mk (And.intro ht.lt hm.lt)
  clear hn hk ht hm
  go_enter Try.func14, Try.ntmps14
  go_upto_region 1 with (fail)
  obtain ⟨W0, hW0⟩ : ∃ W0, w.alloc (.cells #[.int .i64 2, .string key, .int .i64 val] 35) = W0 := ⟨_, rfl⟩
  rw [hW0]
  have HBX := Aside0.mk (show OX w.heap.size 2 key val W0 from by rw [← hW0]; exact blk_new w _)
  have HB := Aside0.mk (show Below w.heap.size w W0 from by rw [← hW0]; exact (Below.refl w.heap.size w).alloc (Nat.le_refl _) _)
  have HS := Aside0.mk (show W0.heap.size = w.heap.size + 1 from by rw [← hW0]; simp)
  clear hW0
  replace HT := Aside0.mk (HT.out.below HB.out)
  replace HM := Aside0.mk (HM.out.below HB.out)
  obtain ⟨q, hq⟩ : ∃ q, w.heap.size = q := ⟨_, rfl⟩
  have HQ := Aside0.mk (show gm < q ∧ n0 ≤ W0.heap.size by have := HLT.out; have := HN.out; have := HS.out; omega)
  have HB0 := Aside0.mk (show Below n0 w W0 from HB.out.mono (by have := HLT.out; have := HN.out; omega))
  rw [hq] at HBX ⊢
  clear hq HLT HS HB
  obtain ⟨x0, x1, x2⟩ := HBX.out.cells
  have x0d : W0.drew.cell? ⟨q, 0, none⟩ = some (.int .i64 2) := x0
  have x1d : W0.drew.cell? ⟨q, 1, none⟩ = some (.string key) := x1
  have x2d : W0.drew.cell? ⟨q, 2, none⟩ = some (.int .i64 val) := x2
  obtain ⟨e0, us', f', hp⟩ : ∃ e0 us' f', delF f us key = (e0, us', f') := ⟨_, _, _, rfl⟩
  have se : (e0 == e0) = true := by simp
  have C1 := Aside0.mk ((tt_del HT.out.drew key HSZ.out hp).mono (R' := fun e w3 => e = .returned (.bool e0) ∧ Mid n0 g gs gm q sd b us us' f f' 2 key val w w3) (by rintro e w3 ⟨rfl, h1, h2⟩; exact ⟨rfl, Mid.mk2 HN.out HQ.out.1 HB0.out HQ.out.2 HM.out HBX.out h1 h2⟩))
  have C2 := Aside0.mk (fun w3 (h3 : Mid n0 g gs gm q sd b us us' f f' 2 key val w w3) => (mm_del h3.m key hp).mono (R' := fun e w4 => e = .returned (.bool e0) ∧ Fin n0 g gs gm sd b w w4) (by rintro e w4 ⟨rfl, h1, h2⟩; exact ⟨rfl, h3.fin h1 h2⟩))
  clear hp HN HSZ HT HM HB0 HQ HBX
  go_upto_region 9 with (fail)
  go_region_with (first | (go_at_call 28; refine (C2.out w3 H3.out).mono ?_; rintro e w4 ⟨rfl, h4⟩; have H4 := Aside0.mk h4; clear h4) | (go_at_call 22; refine C1.out.mono ?_; rintro e w3 ⟨rfl, h3⟩; have H3 := Aside0.mk h3; clear h3 x0 x1 x2 x0d x1d x2d; have x0 := H3.out.x0; have x1 := H3.out.x1; have x2 := H3.out.x2))
  all_goals
    go_wp2
    go_ret
    exact ⟨rfl, H4.out⟩
end Go.Proofs.Ytonafabgbkohlaa.La


namespace Go.Proofs.Ytonafabgbkohlaa.La
open Go.RowKit Go.Proofs.YtonafabgbkohlaaW.PrintWords Go.Proofs.YtonafabgbkohlaaW.PrintLast Go.Proofs.YtonafabgbkohlaaW.PrintMore Go.Proofs.Ytonafabgbkohlaa.Q
set_option linter.unusedSimpArgs false
set_option linter.unusedVariables false
theorem srt_eq : ∀ A B : List ByteArray, A.Pairwise tl → B.Pairwise tl → (∀ x, x ∈ A ↔ x ∈ B) → A = B
  | [], [], _, _, _ => rfl
  | [], b :: B, _, _, h => absurd ((h b).2 (by simp)) (by simp)
  | a :: A, [], _, _, h => absurd ((h a).1 (by simp)) (by simp)
  | a :: A, b :: B, hA, hB, h => by
    obtain ⟨a1, a2⟩ := List.pairwise_cons.1 hA
    obtain ⟨b1, b2⟩ := List.pairwise_cons.1 hB
    have e : a = b := by
      rcases List.mem_cons.1 ((h a).1 (by simp)) with e | e
      · exact e
      rcases List.mem_cons.1 ((h b).2 (by simp)) with e2 | e2
      · exact e2.symm
      exact absurd (tl_trans (b1 a e) (a1 b e2)) (tl_irr b)
    subst e
    congr 1
    refine srt_eq A B a2 b2 fun x => ⟨fun hx => ?_, fun hx => ?_⟩
    · rcases List.mem_cons.1 ((h x).1 (List.mem_cons_of_mem _ hx)) with e | e
      · subst e; exact absurd (a1 x hx) (tl_irr x)
      · exact e
    · rcases List.mem_cons.1 ((h x).2 (List.mem_cons_of_mem _ hx)) with e | e
      · subst e; exact absurd (b1 x hx) (tl_irr x)
      · exact e
theorem sortB_mem (xs : List ByteArray) (x : ByteArray) : x ∈ sortB xs ↔ x ∈ xs := by
  unfold sortB
  rw [List.mem_map]
  constructor
  · rintro ⟨y, hy, rfl⟩
    rw [(List.mergeSort_perm _ _).mem_iff, List.mem_map] at hy
    obtain ⟨z, hz, rfl⟩ := hy
    exact hz
  · intro h
    refine ⟨x.data.toList, ?_, rfl⟩
    rw [(List.mergeSort_perm _ _).mem_iff, List.mem_map]
    exact ⟨x, h, rfl⟩
theorem sortB_srt (xs : List ByteArray) (hn : xs.Nodup) : (sortB xs).Pairwise tl := by
  unfold sortB
  rw [List.pairwise_map]
  have h1 : ((xs.map fun (s : ByteArray) => s.data.toList).mergeSort fun x y => decide (x ≤ y)).Pairwise (fun x y => decide (x ≤ y) = true) :=
    List.pairwise_mergeSort (le := fun (x y : List UInt8) => decide (x ≤ y)) (fun a b c h k => decide_eq_true (List.le_trans (of_decide_eq_true h) (of_decide_eq_true k))) (fun a b => by
      by_cases h : b < a
      · rw [decide_eq_true (show b ≤ a from List.not_lt.1 fun k => List.lt_irrefl _ (List.lt_trans h k))]; simp
      · rw [decide_eq_true (show a ≤ b from List.not_lt.1 h)]; rfl) _
  have h2 : ((xs.map fun (s : ByteArray) => s.data.toList).mergeSort fun x y => decide (x ≤ y)).Nodup := by
    rw [(List.mergeSort_perm _ _).nodup_iff]
    unfold List.Nodup
    rw [List.pairwise_map]
    exact List.Pairwise.imp (fun h e => h (ba_ext e)) hn
  refine (List.Pairwise.and h1 h2).imp ?_
  rintro a b ⟨h, k⟩
  show a < b
  apply Classical.byContradiction
  intro hc
  exact k (List.le_antisymm (of_decide_eq_true h) (List.not_lt.1 hc))
theorem sl_getElem {l : List Sl} {i : Nat} (h : i < l.length) : sl l i = l[i] := by
  unfold sl rd_T52
  rw [Int.toNat_natCast, List.getD_eq_getElem?_getD, List.getElem?_eq_getElem h]; rfl
theorem keyL_mem (l : List Sl) (x : ByteArray) : x ∈ keyL l ↔ ∃ v, Has l x v := by
  unfold keyL
  rw [List.mem_map]
  constructor
  · rintro ⟨s, hs, rfl⟩
    obtain ⟨h1, h2⟩ := List.mem_filter.1 hs
    obtain ⟨i, hi, rfl⟩ := List.mem_iff_getElem.1 h1
    exact ⟨_, i, hi, by rw [sl_getElem hi]; exact h2, by rw [sl_getElem hi], rfl⟩
  · rintro ⟨v, i, hi, h1, h2, h3⟩
    rw [sl_getElem hi] at h1 h2
    exact ⟨l[i], List.mem_filter.2 ⟨List.getElem_mem hi, h1⟩, h2⟩
theorem keyL_nodup {hm : ByteArray → Nat} {l : List Sl} (I : Inv hm l) : (keyL l).Nodup := by
  unfold keyL List.Nodup
  rw [List.pairwise_map, List.pairwise_filter, List.pairwise_iff_getElem]
  intro i j hi hj hlt h1 h2 e
  rw [← sl_getElem hi] at h1 e
  rw [← sl_getElem hj] at h2 e
  have := I.uniq i j hi hj h1 h2 e
  omega
theorem keys_same {sd : Int} {b : Nat} {l : List Sl} {us us2 : Int} {f : ByteArray → Option Int} {L : List Pr} (h : TF sd b l us f) (k : MS L us2 f) : sortB (keyL l) = L.map (fun p => p.f0) := by
  refine srt_eq _ _ (sortB_srt _ (keyL_nodup h.inv)) ?_ fun x => ?_
  · rw [List.pairwise_map]; exact k.srt
  · rw [sortB_mem, keyL_mem, List.mem_map]
    constructor
    · rintro ⟨v, hv⟩
      exact ⟨_, (k.has x v).1 ((h.has x v).1 hv), rfl⟩
    · rintro ⟨⟨y, v⟩, hv, rfl⟩
      exact ⟨v, (h.has y v).2 ((k.has y v).2 hv)⟩
end Go.Proofs.Ytonafabgbkohlaa.La


namespace Go.Proofs.Ytonafabgbkohlaa.La
open Go.RowKit Go.Proofs.Ytonafabgbkohlaa.Zip Go.Proofs.YtonafabgbkohlaaW.PrintWords Go.Proofs.YtonafabgbkohlaaW.PrintLast Go.Proofs.YtonafabgbkohlaaW.PrintMore Go.Proofs.Ytonafabgbkohlaa.Q
set_option linter.unusedSimpArgs false
set_option linter.unusedVariables false
set_option maxRecDepth 100000 in
set_option maxHeartbeats 4000000 in
theorem does_get {g gs gm : Nat} {sd : Int} {b : Nat} {us : Int} {f : KF} {w : World} (n0 : Nat) (hn : n0 ≤ g ∧ n0 ≤ gs ∧ g < gm ∧ gs < gm) (ht : TT g gs sd b us f w) (hm : MM gm b us f w) (val : Int) (key : ByteArray) (hk : key.size ≤ 4611686018427387904) :
    Calls Try.prog 14 #[.pointer (some ⟨g, 0, none⟩), .pointer (some ⟨gm, 0, none⟩), .agg #[.int .i64 1, .string key, .int .i64 val]] w fun e w' => e = .returned (.bool true) ∧ Fin n0 g gs gm sd b w w' := by
  have HN := Aside0.mk hn
  have HSZ := Aside0.mk hk
  have HT := Aside0.mk ht
  have HM := Aside0.mk hm
  have HLT := Aside0.mk (And.intro ht.lt hm.lt)
  clear hn hk ht hm
  go_enter Try.func14, Try.ntmps14
  go_upto_region 1 with (fail)
  obtain ⟨W0, hW0⟩ : ∃ W0, w.alloc (.cells #[.int .i64 1, .string key, .int .i64 val] 35) = W0 := ⟨_, rfl⟩
  rw [hW0]
  have HBX := Aside0.mk (show OX w.heap.size 1 key val W0 from by rw [← hW0]; exact blk_new w _)
  have HB := Aside0.mk (show Below w.heap.size w W0 from by rw [← hW0]; exact (Below.refl w.heap.size w).alloc (Nat.le_refl _) _)
  have HS := Aside0.mk (show W0.heap.size = w.heap.size + 1 from by rw [← hW0]; simp)
  clear hW0
  replace HT := Aside0.mk (HT.out.below HB.out)
  replace HM := Aside0.mk (HM.out.below HB.out)
  obtain ⟨q, hq⟩ : ∃ q, w.heap.size = q := ⟨_, rfl⟩
  have HQ := Aside0.mk (show gm < q ∧ n0 ≤ W0.heap.size by have := HLT.out; have := HN.out; have := HS.out; omega)
  have HB0 := Aside0.mk (show Below n0 w W0 from HB.out.mono (by have := HLT.out; have := HN.out; omega))
  rw [hq] at HBX ⊢
  clear hq HLT HS HB
  obtain ⟨x0, x1, x2⟩ := HBX.out.cells
  have x0d : W0.drew.cell? ⟨q, 0, none⟩ = some (.int .i64 1) := x0
  have x1d : W0.drew.cell? ⟨q, 1, none⟩ = some (.string key) := x1
  have x2d : W0.drew.cell? ⟨q, 2, none⟩ = some (.int .i64 val) := x2
  obtain ⟨v, is, hp⟩ : ∃ v is, getF f key = (v, is) := ⟨_, _, rfl⟩
  have se : (v == v) = true := by simp
  have se2 : (is == is) = true := by simp
  have C1 := Aside0.mk ((tt_get HT.out key HSZ.out hp).mono (R' := fun e w3 => e = .returned (.tuple #[.int .i64 v, .bool is]) ∧ TT g gs sd b us f w3 ∧ MM gm b us f w3 ∧ OX q 1 key val w3 ∧ Below n0 w w3 ∧ n0 ≤ w3.heap.size) (by rintro e w3 ⟨rfl, h1, h2⟩; exact ⟨rfl, h1, HM.out.below h2, blk_below HBX.out h2, HB0.out.trans (h2.mono HQ.out.2), by have := h2.size; have := HQ.out.2; omega⟩))
  have C2 := Aside0.mk (fun w3 (h3 : TT g gs sd b us f w3 ∧ MM gm b us f w3 ∧ OX q 1 key val w3 ∧ Below n0 w w3 ∧ n0 ≤ w3.heap.size) => (mm_get h3.2.1 key hp).mono (R' := fun e w4 => e = .returned (.tuple #[.int .i64 v, .bool is]) ∧ Fin n0 g gs gm sd b w w4) (by rintro e w4 ⟨rfl, h1, h2⟩; exact ⟨rfl, us, f, h3.1.below h2, h1, h3.2.2.2.1.trans (h2.mono h3.2.2.2.2)⟩))
  clear hp HN HSZ HT HM HB0 HQ HBX
  go_upto_region 6 with (go_at_call 25; refine C1.out.mono ?_; rintro e w3 ⟨rfl, h3⟩; have H3 := Aside0.mk h3; clear h3 x0 x1 x2 x0d x1d x2d)
  obtain ⟨x0, x1, x2⟩ := OX.cells H3.out.2.2.1
  go_wp2_with (go_at_call 27; refine (C2.out w3 H3.out).mono ?_; rintro e w4 ⟨rfl, h4⟩; have H4 := Aside0.mk h4; clear h4)
  all_goals
    go_ret
    exact ⟨rfl, H4.out⟩
set_option maxRecDepth 100000 in
set_option maxHeartbeats 4000000 in
theorem does_other {g gs gm : Nat} {sd : Int} {b : Nat} {us : Int} {f : KF} {w : World} (n0 : Nat) (hn : n0 ≤ g ∧ n0 ≤ gs ∧ g < gm ∧ gs < gm) (ht : TT g gs sd b us f w) (hm : MM gm b us f w) (dob val : Int) (key : ByteArray) (hk : key.size ≤ 4611686018427387904) (HD : (dob == 0) = false ∧ (dob == 1) = false ∧ (dob == 2) = false) :
    Calls Try.prog 14 #[.pointer (some ⟨g, 0, none⟩), .pointer (some ⟨gm, 0, none⟩), .agg #[.int .i64 dob, .string key, .int .i64 val]] w fun e w' => e = .returned (.bool true) ∧ Fin n0 g gs gm sd b w w' := by
  have HN := Aside0.mk hn
  have HSZ := Aside0.mk hk
  have HT := Aside0.mk ht
  have HM := Aside0.mk hm
  have HLT := Aside0.mk (And.intro ht.lt hm.lt)
  clear hn hk ht hm
  go_enter Try.func14, Try.ntmps14
  go_upto_region 1 with (fail)
  obtain ⟨W0, hW0⟩ : ∃ W0, w.alloc (.cells #[.int .i64 dob, .string key, .int .i64 val] 35) = W0 := ⟨_, rfl⟩
  rw [hW0]
  have HBX := Aside0.mk (show OX w.heap.size dob key val W0 from by rw [← hW0]; exact blk_new w _)
  have HB := Aside0.mk (show Below w.heap.size w W0 from by rw [← hW0]; exact (Below.refl w.heap.size w).alloc (Nat.le_refl _) _)
  have HS := Aside0.mk (show W0.heap.size = w.heap.size + 1 from by rw [← hW0]; simp)
  clear hW0
  replace HT := Aside0.mk (HT.out.below HB.out)
  replace HM := Aside0.mk (HM.out.below HB.out)
  obtain ⟨q, hq⟩ : ∃ q, w.heap.size = q := ⟨_, rfl⟩
  have HQ := Aside0.mk (show gm < q ∧ n0 ≤ W0.heap.size by have := HLT.out; have := HN.out; have := HS.out; omega)
  have HB0 := Aside0.mk (show Below n0 w W0 from HB.out.mono (by have := HLT.out; have := HN.out; omega))
  rw [hq] at HBX ⊢
  clear hq HLT HS HB
  obtain ⟨x0, x1, x2⟩ := HBX.out.cells
  have x0d : W0.drew.cell? ⟨q, 0, none⟩ = some (.int .i64 dob) := x0
  have x1d : W0.drew.cell? ⟨q, 1, none⟩ = some (.string key) := x1
  have x2d : W0.drew.cell? ⟨q, 2, none⟩ = some (.int .i64 val) := x2
  obtain ⟨b0, b1, b2⟩ := HD
  have HF := Aside0.mk (show Fin n0 g gs gm sd b w W0 from ⟨us, f, HT.out, HM.out, HB0.out⟩)
  clear HN HSZ HT HM HB0 HQ HBX
  go_wp2
  all_goals
    go_ret
    exact ⟨rfl, HF.out⟩
theorem does_calls {g gs gm : Nat} {sd : Int} {b : Nat} {us : Int} {f : KF} {w : World} (n0 : Nat) (hn : n0 ≤ g ∧ n0 ≤ gs ∧ g < gm ∧ gs < gm) (ht : TT g gs sd b us f w) (hm : MM gm b us f w) (dob val : Int) (key : ByteArray) (hk : key.size ≤ 4611686018427387904) :
    Calls Try.prog 14 #[.pointer (some ⟨g, 0, none⟩), .pointer (some ⟨gm, 0, none⟩), .agg #[.int .i64 dob, .string key, .int .i64 val]] w fun e w' => e = .returned (.bool true) ∧ Fin n0 g gs gm sd b w w' := by
  by_cases h0 : dob = 0
  · subst h0; exact does_put n0 hn ht hm val key hk
  by_cases h1 : dob = 1
  · subst h1; exact does_get n0 hn ht hm val key hk
  by_cases h2 : dob = 2
  · subst h2; exact does_del n0 hn ht hm val key hk
  exact does_other n0 hn ht hm dob val key hk ⟨by simpa using h0, by simpa using h1, by simpa using h2⟩
end Go.Proofs.Ytonafabgbkohlaa.La


namespace Go.Proofs.Ytonafabgbkohlaa.La
open Go.RowKit Go.Proofs.YtonafabgbkohlaaW.PrintWords Go.Proofs.YtonafabgbkohlaaW.PrintLast Go.Proofs.YtonafabgbkohlaaW.PrintMore Go.Proofs.Ytonafabgbkohlaa.Q
set_option linter.unusedSimpArgs false
set_option linter.unusedVariables false
theorem cnt_append : ∀ A B : List Sl, cnt (A ++ B) = cnt A + cnt B
  | [], B => by simp [cnt]
  | s :: A, B => by
    show bn s + cnt (A ++ B) = (bn s + cnt A) + cnt B
    rw [cnt_append A B]; omega
theorem cnt_take {l : List Sl} {i : Nat} (h : i < l.length) : cnt (l.take (i + 1)) = cnt (l.take i) + bn (sl l i) := by
  rw [List.take_succ_eq_append_getElem h, cnt_append, sl_getElem h]
  simp [cnt]
/-- What a used slot has. -/
structure UsedAt (sd : Int) (b : Nat) (l : List Sl) (f : KF) (i : Nat) (key : ByteArray) (v : Int) (d : Nat) : Prop where
  el : sl l i = ⟨true, key, v, (d : Int)⟩
  dl : d < l.length
  ho : (homeN sd b key + d) % l.length = i
  hl : homeN sd b key < l.length
  ge : getF f key = (v, true)
  ah : d = 0 ∨ ((sl l ((i + l.length - 1) % l.length)).f0 = true ∧ ¬ (sl l ((i + l.length - 1) % l.length)).f3 < (d : Int) - 1)
  un : ∀ k, k < i → (sl l k).f0 = true → (sl l k).f1 ≠ key
theorem TF.usedAt {sd : Int} {b : Nat} {l : List Sl} {us : Int} {f : KF} (h : TF sd b l us f) {i : Nat} (hi : i < l.length) (hu : (sl l i).f0 = true) : ∃ key v d, UsedAt sd b l f i key v d := by
  obtain ⟨d, h1, h2, h3⟩ := h.inv.pos i hi hu
  have hz := h.sz
  refine ⟨(sl l i).f1, (sl l i).f2, d, ?_, h2, h3, ?_, ?_, ?_, ?_⟩
  · rw [← h1, ← hu]
  · have := homeN_lt sd b (sl l i).f1 h.b0 (by have := h.b1; omega)
    rw [h.len]; exact this
  · have := (h.has (sl l i).f1 (sl l i).f2).1 ⟨i, hi, hu, rfl, rfl⟩
    unfold getF; rw [this]
  · by_cases hd : d = 0
    · exact Or.inl hd
    · refine Or.inr ?_
      have e : ((i + l.length - 1) % l.length + 1) % l.length = i := by
        by_cases c : i = 0
        · subst c
          rw [Nat.zero_add, Nat.mod_eq_of_lt (show l.length - 1 < l.length by omega), show l.length - 1 + 1 = l.length by omega, Nat.mod_self]
        · rw [show i + l.length - 1 = i - 1 + l.length by omega, Nat.add_mod_right, Nat.mod_eq_of_lt (show i - 1 < l.length by omega), show i - 1 + 1 = i by omega, Nat.mod_eq_of_lt hi]
      have P := h.inv.prev ((i + l.length - 1) % l.length) (Nat.mod_lt _ (by omega))
      rw [e] at P
      obtain ⟨p1, p2⟩ := P hu (by omega)
      exact ⟨p1, by omega⟩
  · intro k hk h4 h5
    have := h.inv.uniq k i (by omega) hi h4 hu h5
    omega
end Go.Proofs.Ytonafabgbkohlaa.La


namespace Go.Proofs.Ytonafabgbkohlaa.La
open Go.RowKit Go.Proofs.Ytonafabgbkohlaa.Zip Go.Proofs.YtonafabgbkohlaaW.PrintWords Go.Proofs.YtonafabgbkohlaaW.PrintLast Go.Proofs.YtonafabgbkohlaaW.PrintMore Go.Proofs.Ytonafabgbkohlaa.Q
set_option linter.unusedSimpArgs false
set_option linter.unusedVariables false
theorem MM.cells2 {gm b : Nat} {us : Int} {f : KF} {w : World} (h : MM gm b us f w) : ∃ A c, w.cell? ⟨gm, 0, none⟩ = some (.slice A us.toNat c) ∧ w.cell? ⟨gm, 1, none⟩ = some (.int .i64 ((2 ^ b : Nat) : Int)) := by
  obtain ⟨L, hM, hS, hl⟩ := h.len
  obtain ⟨A, c, c0, c1, _⟩ := hM.cells
  have := hS.len
  exact ⟨A, c, by rw [show us.toNat = L.length by omega]; exact c0, c1⟩
set_option maxRecDepth 100000 in
set_option maxHeartbeats 4000000 in
theorem well_calls {gm b : Nat} {sd us : Int} {l : List Sl} {f : KF} {w : World} (hf : TF sd b l us f) (hm : MM gm b us f w) (A : Option Addr) (c : Nat) (hr : Kd.C k52 w A l.length l) :
    Calls Try.prog 19 #[.pointer (some ⟨gm, 0, none⟩), .int .u64 sd, .int .i64 (b : Int), .slice A l.length c] w fun e w' => e = .returned (.bool true) ∧ Below w.heap.size w w' := by
  have HR := Aside0.mk hr
  have HF := Aside0.mk hf
  have HM := Aside0.mk hm
  have HZ := Aside0.mk hf.sz
  have HC := Aside0.mk hm.cells2
  rw [← hf.len] at HC
  clear hr hf hm
  obtain ⟨n, hn⟩ : ∃ n, l.length = n := ⟨_, rfl⟩
  have HN := Aside0.mk hn
  rw [hn] at HR HC HZ ⊢
  clear hn
  obtain ⟨A0, c0, x0, x1⟩ := HC.out
  have HX := Aside0.mk x0
  clear HC
  go_enter Try.func19, Try.ntmps19
  go_upto_region 4 with (fail)
  clear x0 x1
  go_upto_region 5 with (fail)
  go_wp2
  go_loopw [10, 11, 12, 13, 14, 15, 16] (fun v10 v11 v12 v13 v14 v15 v16 w' => ∃ i : Nat, v11 = .int .i64 i ∧ v10 = .int .i64 (cnt (l.take i) : Nat) ∧ Aside0 (i ≤ n) ∧ Aside0 (Below w.heap.size w w')) (fun _ v11 _ _ _ _ _ _ => n - (intOf v11).toNat)
  case atStart => exact ⟨0, rfl, rfl, ⟨Nat.zero_le _⟩, ⟨Below.refl _ _⟩⟩
  case round =>
    obtain ⟨i, rfl, rfl, HI, HB⟩ := hrel
    by_cases hlt : i < n
    · have d2 : decide (i < n) = true := decide_eq_true hlt
      have HLT := Aside0.mk hlt
      obtain ⟨ad, ea, y0, y1, y2, y3⟩ := at_T52 HR.out (i : Int) (by omega) (by omega)
      subst ea
      simp only [Int.toNat_natCast] at y0 y1 y2 y3
      have hil : i < l.length := by rw [HN.out]; exact hlt
      have q0 := eq_true (show (0 : Int) ≤ (i : Int) by omega)
      have q1 := eq_true (show (i : Int) < (n : Int) by omega)
      have q2 := eq_true hlt
      have DW := Aside0.mk (show wrap64 ((i : Int) + 1) = (i : Int) + 1 by have := HZ.out; unfold wrap64; omega)
      have ct := cnt_take hil
      have cl : cnt (l.take i) ≤ 256 := by have := cnt_le (l.take i); rw [List.length_take] at this; have := HZ.out; omega
      cases hu : (sl l i).f0 with
      | false =>
        have hz := HF.out.inv.zero i hil hu
        have hz2 : rd_T52 l (i : Int) = zeroS := hz
        have ct2 : cnt (l.take (i + 1)) = cnt (l.take i) := by rw [ct]; unfold bn; rw [hu]; simp
        have CT := Aside0.mk ct2
        rw [hz2] at y0 y1 y2 y3
        replace y0 := pw_cell_below HB.out y0
        replace y1 := pw_cell_below HB.out y1
        replace y2 := pw_cell_below HB.out y2
        replace y3 := pw_cell_below HB.out y3
        simp only [zeroS] at y0 y1 y2 y3
        clear hz hz2 ct ct2 hu hil hlt cl
        go_upto_region 9 with (fail)
        go_wp2
        refine ⟨⟨i + 1, by rw [DW.out]; rfl, by rw [CT.out], ⟨by have := HLT.out; omega⟩, HB⟩, ?_⟩
        rw [DW.out]; simp only [intOf]; have := HLT.out; omega
      | true =>
        obtain ⟨key, v, d, U⟩ := HF.out.usedAt hil hu
        have HU := Aside0.mk U
        have el : rd_T52 l (i : Int) = ⟨true, key, v, (d : Int)⟩ := U.el
        rw [el] at y0 y1 y2 y3
        simp only at y0 y1 y2 y3
        have CT := Aside0.mk (show wrap64 ((cnt (l.take i) : Int) + 1) = ((cnt (l.take (i + 1)) : Nat) : Int) by rw [ct]; unfold bn; rw [hu]; unfold wrap64; simp; omega)
        have HY := Aside0.mk (And.intro y0 (And.intro y1 (And.intro y2 y3)))
        replace y0 := pw_cell_below HB.out y0
        replace y1 := pw_cell_below HB.out y1
        clear y2 y3 ct hu hil hlt cl el U
        have HMw := Aside0.mk (HM.out.below HB.out)
        have HKS := Aside0.mk (show key.size ≤ 33 by
          have e := HU.out.ge
          unfold getF at e
          cases e2 : f key with
          | none => rw [e2] at e; cases e
          | some v2 => exact (HM.out.ko key v2 e2).2)
        have HS2 := Aside0.mk (sum_r 1100 sd key (by have := HKS.out; omega) (by omega))
        have HS3 := Aside0.mk (home_r sd b key HF.out.b0 (by have := HF.out.b1; omega))
        obtain ⟨hh, hhe⟩ : ∃ hh, homeN sd b key = hh := ⟨_, rfl⟩
        have HH := Aside0.mk (show hh < n ∧ (hh + d) % n = i ∧ d < n by have h1 := HU.out.hl; have h2 := HU.out.ho; have h3 := HU.out.dl; rw [hhe, HN.out] at h1 h2; rw [HN.out] at h3; exact ⟨h1, h2, h3⟩)
        rw [hhe] at HS3
        clear hhe
        go_upto_region 12 with (fail)
        go_upto_region 13 with (go_at_call 27; refine (mm_get HMw.out key HU.out.ge).mono ?_; rintro e w3 ⟨rfl, hm, hb⟩; have HB3 := Aside0.mk (HB.out.trans (hb.mono HB.out.size)); clear hm hb)
        clear y0 y1
        have y1 := pw_cell_below HB3.out HY.out.2.1
        go_upto_region 14 with (first | (go_at_call 24; refine (sandglassref03_Sum.calls 1100 _ _ _ _ HS2.out).mono ?_; rintro e w4 ⟨rfl, hb⟩; have HB4 := Aside0.mk (HB3.out.trans (hb.below.mono HB3.out.size)); clear hb) | (go_at_call 23; refine (sandglassref03_Home.calls 1 _ _ _ _ HS3.out).mono ?_; rintro e w5 ⟨rfl, hb⟩; have HB5 := Aside0.mk (HB4.out.trans (hb.below.mono HB4.out.size)); clear hb))
        clear y1 HS2 HS3 HMw
        have y0 := pw_cell_below HB5.out HY.out.1
        have y1 := pw_cell_below HB5.out HY.out.2.1
        have y2 := pw_cell_below HB5.out HY.out.2.2.1
        have y3 := pw_cell_below HB5.out HY.out.2.2.2
        have e0 : decide ((d : Int) < 0) = false := decide_eq_false (by omega)
        have e1 : decide ((n : Int) ≤ (d : Int)) = false := decide_eq_false (by have := HH.out; omega)
        have e1n : decide (n ≤ d) = false := decide_eq_false (by have := HH.out; omega)
        have e2 : wrap64 ((hh : Int) + (d : Int)) = ((hh + d : Nat) : Int) := by have := HH.out; have := HZ.out; unfold wrap64; omega
        have nz := eq_false (show ¬ n = 0 by have := HZ.out; omega)
        have e4 : (((hh : Int) + (d : Int)) % (n : Int) != (i : Int)) = false := bne_eq_false_iff_eq.mpr (by rw [← Int.natCast_add, ← Int.natCast_emod, HH.out.2.1])
        go_upto_region 16 with (fail)
        clear y0 y1 y2 y3 e0 e1 e1n e2 e4
        have hjn : (i + n - 1) % n < n := Nat.mod_lt _ (by have := HZ.out; omega)
        have hah := HU.out.ah
        rw [HN.out] at hah
        obtain ⟨ad2, ea, z0, z1, z2, z3⟩ := at_T52 HR.out (((i + n - 1) % n : Nat) : Int) (by omega) (by omega)
        obtain rfl := Option.some.inj ea
        simp only [Int.toNat_natCast] at z0 z1 z2 z3
        obtain ⟨x, hx⟩ : ∃ x, rd_T52 l (((i + n - 1) % n : Nat) : Int) = x := ⟨_, rfl⟩
        rw [hx] at z0 z1 z2 z3
        rw [show sl l ((i + n - 1) % n) = x from hx] at hah
        have HAH := Aside0.mk hah
        replace z0 := pw_cell_below HB5.out z0
        replace z1 := pw_cell_below HB5.out z1
        replace z2 := pw_cell_below HB5.out z2
        replace z3 := pw_cell_below HB5.out z3
        have e5 : wrap64 ((i : Int) + (n : Int)) = (i : Int) + (n : Int) := by have := HLT.out; have := HZ.out; unfold wrap64; omega
        have e6 : wrap64 ((i : Int) + (n : Int) - 1) = (i : Int) + (n : Int) - 1 := by have := HLT.out; have := HZ.out; unfold wrap64; omega
        have e8 : (((i : Int) + (n : Int) - 1).tmod (n : Int)) = (((i + n - 1) % n : Nat) : Int) := by
          rw [Int.tmod_eq_emod_of_nonneg (by have := HZ.out; omega), show (i : Int) + (n : Int) - 1 = ((i + n - 1 : Nat) : Int) by have := HZ.out; omega, ← Int.natCast_emod]
        have p3 := eq_true (show 0 ≤ (((i : Int) + (n : Int) - 1).tmod (n : Int)) by rw [e8]; omega)
        have p4 := eq_true (show (((i : Int) + (n : Int) - 1).tmod (n : Int)) < (n : Int) by rw [e8]; omega)
        have e9 : (((i : Int) + (n : Int) - 1).tmod (n : Int)).toNat = (i + n - 1) % n := by rw [e8, Int.toNat_natCast]
        rw [← e9] at z0 z1 z2 z3
        clear e8 e9
        have p0 := eq_true (show (0 : Int) ≤ (((i + n - 1) % n : Nat) : Int) by omega)
        have p1 := eq_true (show (((i + n - 1) % n : Nat) : Int) < (n : Int) by omega)
        have p2 := eq_true hjn
        clear hjn hx hah
        go_upto_region 17 with (fail)
        clear z0 z1 z2 z3 e5 e6 p0 p1 p2 p3 p4
        obtain ⟨W6, hW6⟩ : ∃ W6, w5.alloc (.cells #[.bool x.f0, .string x.f1, .int .i64 x.f2, .int .i64 x.f3] 52) = W6 := ⟨_, rfl⟩
        obtain ⟨g6, hg6⟩ : ∃ g6, w5.heap.size = g6 := ⟨_, rfl⟩
        have z : W6.heap[g6]? = some (.cells #[.bool x.f0, .string x.f1, .int .i64 x.f2, .int .i64 x.f3] 52 (0, 0)) := by rw [← hW6, ← hg6]; exact blk_new w5 _
        have HB6 := Aside0.mk (show Below w.heap.size w W6 from by rw [← hW6]; exact HB5.out.alloc HB5.out.size _)
        rw [hW6, hg6]
        have z0 : W6.cell? ⟨g6, 0, none⟩ = some (.bool x.f0) := (blk_cell z 0).trans rfl
        have z3 : W6.cell? ⟨g6, 3, none⟩ = some (.int .i64 x.f3) := (blk_cell z 3).trans rfl
        have z0d : W6.drew.cell? ⟨g6, 0, none⟩ = some (.bool x.f0) := z0
        have z3d : W6.drew.cell? ⟨g6, 3, none⟩ = some (.int .i64 x.f3) := z3
        have y3 := pw_cell_below HB6.out HY.out.2.2.2
        have y3d : W6.drew.cell? ⟨(ad.add (i * 4)).block, (ad.add (i * 4)).off + 3, none⟩ = some (.int .i64 (d : Int)) := y3
        have HB7 := Aside0.mk (show Below w.heap.size w W6.drew from below_drew HB6.out)
        clear hW6 hg6 z
        have w1 : wrap64 ((d : Int) - 1) = (d : Int) - 1 := by have := HH.out; have := HZ.out; unfold wrap64; omega
        by_cases hd : d = 0
        · have c0 : decide (0 < d) = false := decide_eq_false (by omega)
          have c0i : decide (0 < (d : Int)) = false := decide_eq_false (by omega)
          clear hd
          go_region
          all_goals
            clear z0 z3 z0d z3d y3 y3d w1 c0 c0i
            go_wp2
            go_loopw [16] (fun v16 w' => ∃ k : Nat, v16 = .int .i64 k ∧ Aside0 (k ≤ i) ∧ Aside0 (Below w.heap.size w w')) (fun v16 _ => i - (intOf v16).toNat)
            case atStart => exact ⟨0, rfl, ⟨Nat.zero_le _⟩, HB7⟩
            case round =>
              obtain ⟨k, rfl, HK, HBk⟩ := hrel
              by_cases hk : k < i
              · have k2 : decide (k < i) = true := decide_eq_true hk
                have hkn : k < n := by have := HLT.out; omega
                obtain ⟨ad3, ea, t0, t1, t2, t3⟩ := at_T52 HR.out (k : Int) (by omega) (by omega)
                obtain rfl := Option.some.inj ea
                simp only [Int.toNat_natCast] at t0 t1 t2 t3
                have hun := HU.out.un k hk
                obtain ⟨x2, hx2⟩ : ∃ x2, rd_T52 l (k : Int) = x2 := ⟨_, rfl⟩
                rw [hx2] at t0 t1
                rw [show sl l k = x2 from hx2] at hun
                replace t0 := pw_cell_below HBk.out t0
                replace t1 := pw_cell_below HBk.out t1
                have y1 := pw_cell_below HBk.out HY.out.2.1
                obtain ⟨W9, hW9⟩ : ∃ W9, W9 = wr.drew := ⟨_, rfl⟩
                have t0d : wr.drew.cell? (ad.add (k * 4)) = some (.bool x2.f0) := t0
                have t1d : wr.drew.cell? ⟨(ad.add (k * 4)).block, (ad.add (k * 4)).off + 1, none⟩ = some (.string x2.f1) := t1
                have y1d : wr.drew.cell? ⟨(ad.add (i * 4)).block, (ad.add (i * 4)).off + 1, none⟩ = some (.string key) := y1
                have DK := Aside0.mk (show wrap64 ((k : Int) + 1) = (k : Int) + 1 by have := HZ.out; unfold wrap64; omega)
                have HKL := Aside0.mk hk
                have HB9 := Aside0.mk (show Below w.heap.size w wr.drew from below_drew HBk.out)
                have p0 := eq_true (show (0 : Int) ≤ (k : Int) by omega)
                have p1 := eq_true (show (k : Int) < (n : Int) by omega)
                have p2 := eq_true hkn
                clear t2 t3 hx2 hW9 hk hkn ea
                cases hu2 : x2.f0 with
                | false =>
                  rw [hu2] at t0 t0d
                  clear hun hu2
                  go_upto_region 22 with (fail)
                  go_region
                  all_goals
                    go_wp2
                    refine ⟨⟨k + 1, by rw [DK.out]; rfl, ⟨by have := HKL.out; omega⟩, HB9⟩, ?_⟩
                    rw [DK.out]; simp only [intOf]; have := HKL.out; omega
                | true =>
                  have se := str_eq x2.f1 key
                  rw [decide_eq_false (hun hu2)] at se
                  rw [hu2] at t0 t0d
                  clear hun hu2
                  go_upto_region 22 with (fail)
                  go_region
                  all_goals
                    go_wp2
                    refine ⟨⟨k + 1, by rw [DK.out]; rfl, ⟨by have := HKL.out; omega⟩, HB9⟩, ?_⟩
                    rw [DK.out]; simp only [intOf]; have := HKL.out; omega
              · obtain rfl : k = i := by have := HK.out; omega
                have k2 : decide (k < k) = false := decide_eq_false hk
                clear hk
                go_wp2
                refine ⟨⟨k + 1, by rw [DW.out]; rfl, by rw [CT.out], ⟨by have := HLT.out; omega⟩, HBk⟩, ?_⟩
                rw [DW.out]; simp only [intOf]; have := HLT.out; omega
        · have c0 : decide (0 < d) = true := decide_eq_true (by omega)
          have c0i : decide (0 < (d : Int)) = true := decide_eq_true (by omega)
          have hx := HAH.out.resolve_left hd
          rw [hx.1] at z0 z0d
          have c1 : decide (x.f3 < (d : Int) - 1) = false := decide_eq_false hx.2
          clear hd hx
          go_region
          all_goals
            clear z0 z3 z0d z3d y3 y3d w1 c0 c0i c1
            go_wp2
            go_loopw [16] (fun v16 w' => ∃ k : Nat, v16 = .int .i64 k ∧ Aside0 (k ≤ i) ∧ Aside0 (Below w.heap.size w w')) (fun v16 _ => i - (intOf v16).toNat)
            case atStart => exact ⟨0, rfl, ⟨Nat.zero_le _⟩, HB7⟩
            case round =>
              obtain ⟨k, rfl, HK, HBk⟩ := hrel
              by_cases hk : k < i
              · have k2 : decide (k < i) = true := decide_eq_true hk
                have hkn : k < n := by have := HLT.out; omega
                obtain ⟨ad3, ea, t0, t1, t2, t3⟩ := at_T52 HR.out (k : Int) (by omega) (by omega)
                obtain rfl := Option.some.inj ea
                simp only [Int.toNat_natCast] at t0 t1 t2 t3
                have hun := HU.out.un k hk
                obtain ⟨x2, hx2⟩ : ∃ x2, rd_T52 l (k : Int) = x2 := ⟨_, rfl⟩
                rw [hx2] at t0 t1
                rw [show sl l k = x2 from hx2] at hun
                replace t0 := pw_cell_below HBk.out t0
                replace t1 := pw_cell_below HBk.out t1
                have y1 := pw_cell_below HBk.out HY.out.2.1
                obtain ⟨W9, hW9⟩ : ∃ W9, W9 = wr.drew := ⟨_, rfl⟩
                have t0d : wr.drew.cell? (ad.add (k * 4)) = some (.bool x2.f0) := t0
                have t1d : wr.drew.cell? ⟨(ad.add (k * 4)).block, (ad.add (k * 4)).off + 1, none⟩ = some (.string x2.f1) := t1
                have y1d : wr.drew.cell? ⟨(ad.add (i * 4)).block, (ad.add (i * 4)).off + 1, none⟩ = some (.string key) := y1
                have DK := Aside0.mk (show wrap64 ((k : Int) + 1) = (k : Int) + 1 by have := HZ.out; unfold wrap64; omega)
                have HKL := Aside0.mk hk
                have HB9 := Aside0.mk (show Below w.heap.size w wr.drew from below_drew HBk.out)
                have p0 := eq_true (show (0 : Int) ≤ (k : Int) by omega)
                have p1 := eq_true (show (k : Int) < (n : Int) by omega)
                have p2 := eq_true hkn
                clear t2 t3 hx2 hW9 hk hkn ea
                cases hu2 : x2.f0 with
                | false =>
                  rw [hu2] at t0 t0d
                  clear hun hu2
                  go_upto_region 22 with (fail)
                  go_region
                  all_goals
                    go_wp2
                    refine ⟨⟨k + 1, by rw [DK.out]; rfl, ⟨by have := HKL.out; omega⟩, HB9⟩, ?_⟩
                    rw [DK.out]; simp only [intOf]; have := HKL.out; omega
                | true =>
                  have se := str_eq x2.f1 key
                  rw [decide_eq_false (hun hu2)] at se
                  rw [hu2] at t0 t0d
                  clear hun hu2
                  go_upto_region 22 with (fail)
                  go_region
                  all_goals
                    go_wp2
                    refine ⟨⟨k + 1, by rw [DK.out]; rfl, ⟨by have := HKL.out; omega⟩, HB9⟩, ?_⟩
                    rw [DK.out]; simp only [intOf]; have := HKL.out; omega
              · obtain rfl : k = i := by have := HK.out; omega
                have k2 : decide (k < k) = false := decide_eq_false hk
                clear hk
                go_wp2
                refine ⟨⟨k + 1, by rw [DW.out]; rfl, by rw [CT.out], ⟨by have := HLT.out; omega⟩, HBk⟩, ?_⟩
                rw [DW.out]; simp only [intOf]; have := HLT.out; omega
    · obtain rfl : i = n := by have := HI.out; omega
      have d2 : decide (i < i) = false := decide_eq_false hlt
      have x0r := pw_cell_below HB.out HX.out
      have HU := Aside0.mk (show us.toNat = cnt (l.take i) by rw [← HN.out, List.take_length]; have := HF.out.us; omega)
      rw [HU.out] at x0r
      go_wp2
      go_ret
      exact ⟨rfl, HB.out⟩
end Go.Proofs.Ytonafabgbkohlaa.La


namespace Go.Proofs.Ytonafabgbkohlaa.Q
open Go.RowKit Go.Proofs.Ytonafabgbkohlaa.Zip Go.Proofs.YtonafabgbkohlaaW.PrintWords Go.Proofs.YtonafabgbkohlaaW.PrintLast Go.Proofs.YtonafabgbkohlaaW.PrintMore Go.Proofs.Ytonafabgbkohlaa.La
set_option linter.unusedVariables false
set_option linter.unusedSimpArgs false
def sandglasslaw05_RobinWell.f (a0 : Int) (a1 : Int) (l2 : List S35) : Option Bool := some true
set_option maxRecDepth 100000 in
set_option maxHeartbeats 4000000 in
theorem sandglasslaw05_RobinWell.calls (a0 : Int) (a1 : Int) (A2 : Option Addr) (c2 : Nat) (l2 : List S35) (r : Bool) (w : World) (hr2 : Kd.C k35 w A2 l2.length l2) (hc2 : l2.length ≤ c2) (h : sandglasslaw05_RobinWell.f a0 a1 l2 = some r) :
    Calls Try.prog 4 #[.int .u64 a0, .int .i64 a1, .slice A2 l2.length c2] w fun e w' => e = .returned (.bool r) ∧ Below w.heap.size w w' := by
  obtain rfl := Option.some.inj h
  have HR := Aside0.mk hr2
  clear h hr2
  have HLV := Aside0.mk @sandglasslaw05_live.calls
  obtain ⟨rf, hrf⟩ : ∃ rf, fewB l2 60 = rf := ⟨_, rfl⟩
  have HFW := Aside0.mk hrf
  clear hrf
  go_enter Try.func4, Try.ntmps4
  by_cases hbi : a1 < 1 ∨ 8 < a1
  · have HN1 := Aside0.mk (robin_New.calls_no a0 a1 w hbi)
    have HN2 := Aside0.mk (map_new_no a1 w hbi)
    clear hbi
    go_upto_region 2 with (go_at_call 12; refine HN1.out.mono ?_; rintro e w2 ⟨rfl, rfl⟩)
    go_upto_region 3 with (go_at_call 13; refine HN2.out.mono ?_; rintro e w3 ⟨rfl, rfl⟩)
    cases rf with
    | false =>
      go_wp2_with (first | (go_at_call 11; refine (HLV.out w2).mono ?_; rintro e w5 ⟨rfl, hb⟩; have HB5 := Aside0.mk hb; clear hb) | (go_at_call 10; refine (few_calls A2 c2 l2 60 _ HR.out (by decide) _ HFW.out).mono ?_; rintro e w2 ⟨rfl, hb⟩; have HB2 := Aside0.mk hb; clear hb))
      all_goals
        go_ret
        exact ⟨rfl, HB2.out.trans (HB5.out.mono HB2.out.size)⟩
    | true =>
      go_wp2_with (first | (go_at_call 11; refine (HLV.out w2).mono ?_; rintro e w5 ⟨rfl, hb⟩; have HB5 := Aside0.mk hb; clear hb) | (go_at_call 10; refine (few_calls A2 c2 l2 60 _ HR.out (by decide) _ HFW.out).mono ?_; rintro e w2 ⟨rfl, hb⟩; have HB2 := Aside0.mk hb; clear hb))
      all_goals
        go_ret
        exact ⟨rfl, HB2.out.trans (HB5.out.mono HB2.out.size)⟩
  obtain ⟨b, rfl⟩ : ∃ b : Nat, a1 = (b : Int) := ⟨a1.toNat, by omega⟩
  have hb0 : 1 ≤ b := by omega
  have hb8 : b ≤ 8 := by omega
  clear hbi
  obtain ⟨n0, hn0⟩ : ∃ n0, w.heap.size = n0 := ⟨_, rfl⟩
  have HN0 := Aside0.mk hn0
  have HN1 := Aside0.mk (tt_new a0 b w hb0 hb8)
  rw [hn0] at HN1
  go_upto_region 2 with (go_at_call 12; refine HN1.out.mono ?_; rintro e w1 ⟨rfl, ht, hb⟩; have HT := Aside0.mk ht; have HB1 := Aside0.mk hb; clear ht hb)
  obtain ⟨gm, hgm⟩ : ∃ gm, w1.heap.size = gm := ⟨_, rfl⟩
  have HNN := Aside0.mk (show n0 ≤ n0 + 1 ∧ n0 ≤ n0 ∧ n0 + 1 < gm ∧ n0 < gm by have := HT.out.lt; omega)
  have HN2 := Aside0.mk (mm_new b w1 hb0 hb8)
  rw [hgm] at HN2
  clear hn0 HN1
  go_upto_region 3 with (go_at_call 13; refine HN2.out.mono ?_; rintro e w2 ⟨rfl, hm, hb⟩; have HM := Aside0.mk hm; have HB2 := Aside0.mk hb; clear hm hb)
  replace HT := Aside0.mk (HT.out.below (by rw [hgm]; exact HB2.out))
  have HBW := Aside0.mk (show Below w.heap.size w w2 from by rw [HN0.out]; exact HB1.out.trans (HB2.out.mono (by have := HNN.out; omega)))
  have HQ0 := Aside0.mk (show w.heap.size ≤ n0 by have := HN0.out; omega)
  clear HN2 hb0 hb8 HB1 HB2 hgm HN0
  by_cases hg : rf = false
  · subst hg
    go_wp2_with (first | (go_at_call 11; refine (HLV.out w3).mono ?_; rintro e w5 ⟨rfl, hb⟩; have HB5 := Aside0.mk hb; clear hb) | (go_at_call 10; refine (few_calls A2 c2 l2 60 _ (Kd.C_below HR.out HBW.out) (by decide) _ HFW.out).mono ?_; rintro e w3 ⟨rfl, hb⟩; have HB3 := Aside0.mk (HBW.out.trans (hb.mono HBW.out.size)); clear hb))
    go_ret
    exact ⟨rfl, HB3.out.trans (HB5.out.mono HB3.out.size)⟩
  obtain rfl : rf = true := by cases rf <;> simp at hg ⊢
  clear hg
  have HFT := Aside0.mk (fewB_true HFW.out)
  go_upto_region 7 with (go_at_call 10; refine (few_calls A2 c2 l2 60 _ (Kd.C_below HR.out HBW.out) (by decide) _ HFW.out).mono ?_; rintro e w3 ⟨rfl, hb⟩; replace HT := Aside0.mk (HT.out.below hb); replace HM := Aside0.mk (HM.out.below hb); replace HBW := Aside0.mk (HBW.out.trans (hb.mono HBW.out.size)); clear hb)
  go_wp2
  go_loopw [11] (fun v11 w' => ∃ (i : Nat) (u : Int) (f : KF), v11 = .int .i64 i ∧ Aside0 (i ≤ l2.length) ∧ Aside0 (TT (n0 + 1) n0 a0 b u f w') ∧ Aside0 (MM gm b u f w') ∧ Aside0 (Below w.heap.size w w')) (fun v11 _ => l2.length - (intOf v11).toNat)
  case atStart => exact ⟨0, 0, _, rfl, ⟨Nat.zero_le _⟩, HT, HM, HBW⟩
  case round =>
    clear HT HM HBW
    obtain ⟨i, u, f, rfl, HI, HT, HM, HB⟩ := hrel
    by_cases hlt : i < l2.length
    · have d2 : decide (i < l2.length) = true := decide_eq_true hlt
      have HLT := Aside0.mk hlt
      obtain ⟨ad, ea, y0, y1, y2⟩ := at_T35 (Kd.C_below HR.out HB.out) (i : Int) (by omega) (by omega)
      subst ea
      simp only [Int.toNat_natCast] at y0 y1 y2
      have hsz := HFT.out.2 i hlt
      obtain ⟨dob, hdo⟩ : ∃ dob, (rd_T35 l2 (i : Int)).f0 = dob := ⟨_, rfl⟩
      obtain ⟨key, hkey⟩ : ∃ key, (rd_T35 l2 (i : Int)).f1 = key := ⟨_, rfl⟩
      obtain ⟨val, hval⟩ : ∃ val, (rd_T35 l2 (i : Int)).f2 = val := ⟨_, rfl⟩
      rw [hdo] at y0
      rw [hkey] at y1 hsz
      rw [hval] at y2
      have HSZ := Aside0.mk (show key.size ≤ 4611686018427387904 by omega)
      have DW := Aside0.mk (show wrap64 ((i : Int) + 1) = (i : Int) + 1 by have := HFT.out.1; unfold wrap64; omega)
      have q0 := eq_true (show (0 : Int) ≤ (i : Int) by omega)
      have q1 := eq_true (show (i : Int) < (l2.length : Int) by omega)
      have q2 := eq_true hlt
      clear hlt hsz
      have HC := Aside0.mk ((does_calls n0 HNN.out HT.out HM.out dob val key HSZ.out).mono (R' := fun e w3 => e = .returned (.bool true) ∧ ∃ u3 : Int, ∃ f3 l3, Tab (n0 + 1) n0 a0 (b : Int) l3 u3 w3 ∧ TF a0 b l3 u3 f3 ∧ MM gm b u3 f3 w3 ∧ Below w.heap.size w w3) (by rintro e w3 ⟨rfl, us', f', ⟨l3, h1, h4⟩, h2, h3⟩; exact ⟨rfl, us', f', l3, h1, h4, h2, HB.out.trans (h3.mono HQ0.out)⟩))
      go_wp2_with (first | (go_at_call 19; refine (well_calls HF3.out HM4.out _ _ HO4.out).mono ?_; rintro e w5 ⟨rfl, hb⟩; have HT5 := Aside0.mk (HT4.out.below hb); have HM5 := Aside0.mk (HM4.out.below hb); have HB5 := Aside0.mk (HB4.out.trans (hb.mono HB4.out.size)); clear hb) | (go_at_call 20; refine (robin_Table_Slots.calls (n0 + 1) n0 a0 (b : Int) u3 l3 w3 HT3.out (by have := HF3.out.sz; omega)).mono ?_; rintro e w4 ⟨v4, rfl, ho, hb⟩; obtain ⟨As, cs, rfl⟩ := Kd.R_slice ho; have HO4 := Aside0.mk (Kd.R_reads' ho).2.2; have HT4 := Aside0.mk (HT3.out.below hb); have HM4 := Aside0.mk (HM3.out.below hb); have HB4 := Aside0.mk (HB3.out.trans (hb.mono HB3.out.size)); clear ho hb) | (go_at_call 14; refine HC.out.mono ?_; rintro e w3 ⟨rfl, u3, f3, l3, ht, hf, hm, hb⟩; have HT3 := Aside0.mk ht; have HF3 := Aside0.mk hf; have HM3 := Aside0.mk hm; have HB3 := Aside0.mk hb; clear ht hf hm hb y0 y1 y2))
      all_goals
        refine ⟨⟨i + 1, u3, f3, by rw [DW.out]; rfl, ⟨by have := HLT.out; omega⟩, ⟨_, HT5.out, HF3.out⟩, HM5, HB5⟩, ?_⟩
        rw [DW.out]
        simp only [intOf]
        have := HLT.out
        omega
    · obtain rfl : i = l2.length := by have := HI.out; omega
      have d2 : decide (l2.length < l2.length) = false := decide_eq_false hlt
      clear hlt HI
      go_wp2_with (go_at_call 11; refine (HLV.out wr).mono ?_; rintro e w6 ⟨rfl, hb⟩; have HB6 := Aside0.mk hb; clear hb)
      all_goals
        go_ret
        exact ⟨rfl, HB.out.trans (HB6.out.mono HB.out.size)⟩
end Go.Proofs.Ytonafabgbkohlaa.Q


namespace Go.Proofs.Ytonafabgbkohlaa.Op
open Go.RowKit Go.Proofs.YtonafabgbkohlaaW.PrintWords Go.WideShapes

/-- Whatever reads as a datum of the type t is told by the kind d, and is as 'ok' says. -/
def Opens (P : Program) (t : TypeId) {α : Type} (d : Kd α) (ok : α → Prop) : Prop :=
  ∀ {H : Type} {enc : TypeId × Value → H} {w : World} {base : Nat} {spare : Nat → Bool} {held : Bool} {fuel : Nat} {cs : List Value} {x : DataW H × List MemPlace},
    DataW.trod enc P w base spare held fuel t cs = some x → ∃ a, d.K w a cs ∧ ok a

theorem Opens.int {P : Program} {t : TypeId} {k : IntKind} (hu : P.underlying t = some (.int k)) : Opens P t (Kd.int k) (fun a => (Lit.int k a).wf = true) := by
  intro H enc w base spare held fuel cs x h
  obtain ⟨n, rfl, _, hw⟩ := DataW.trod_int hu h
  exact ⟨n, rfl, hw⟩
theorem Opens.bool {P : Program} {t : TypeId} (hu : P.underlying t = some .bool) : Opens P t Kd.bool (fun _ => True) := by
  intro H enc w base spare held fuel cs x h
  obtain ⟨n, rfl, _⟩ := DataW.trod_bool hu h
  exact ⟨n, rfl, trivial⟩
theorem Opens.string {P : Program} {t : TypeId} (hu : P.underlying t = some .string) : Opens P t Kd.string (fun s => s.size ≤ maxLen) := by
  intro H enc w base spare held fuel cs x h
  obtain ⟨n, rfl, _, hs⟩ := DataW.trod_string hu h
  exact ⟨n, rfl, hs⟩
theorem Opens.slice {P : Program} {t e : TypeId} {α : Type} [Inhabited α] {d : Kd α} {ok : α → Prop} (hu : P.underlying t = some (.slice e)) (he : Opens P e d ok) (hc : P.cellsOf e = d.sz) :
    Opens P t (Kd.slice e d) (fun xs => xs.length ≤ maxLen ∧ ∀ x ∈ xs, ok x) := by
  intro H enc w base spare held fuel cs x h
  rcases Deep.open_slice hu h with ⟨rfl, _⟩ | ⟨a, len, cap, m, n, D, Pl, rfl, _, hl, hm, hmm, _, hel⟩
  · exact ⟨[], ⟨none, 0, rfl, Nat.le_refl _, Kd.C_nil d w⟩, ⟨Nat.zero_le _, fun x hx => by cases hx⟩⟩
  · have hle : len ≤ m := by rw [hmm]; split <;> omega
    obtain ⟨f, hf⟩ := Deep.choose_lt (α := α) (n := len) (p := fun i p => ok p ∧ ∃ c, c.length = d.sz ∧ d.K w p c ∧ ∀ j u, c[j]? = some u → w.cell? (a.add (i * d.sz + j)) = some u) (fun i hi => by
      obtain ⟨cs', h1, h2⟩ := hel i (by omega)
      obtain ⟨y, hK, hok⟩ := he h2
      obtain ⟨_, hlen, hcell⟩ := World.cells?_some h1
      refine ⟨y, hok, cs', by rw [hlen, hc], hK, fun j u hj => ?_⟩
      have hlt : j < P.cellsOf e := by rw [← hlen]; exact (List.getElem?_eq_some_iff.1 hj).1
      have := hcell j hlt
      rw [hc, Deep.add_add] at this
      rw [this, hj])
    refine ⟨(List.range len).map f, ⟨some a, cap, by simp, by simpa using hl, ?_⟩, by simpa using Nat.le_trans hl hm, ?_⟩
    · refine ⟨rfl, ?_, fun _ => ⟨a, rfl, fun j p hj => ?_⟩⟩
      · have : maxLen ≤ 9223372036854775807 := by decide
        simp; omega
      · rw [List.getElem?_map] at hj
        obtain ⟨q, hq, rfl⟩ := Option.map_eq_some_iff.1 hj
        have hlt := (List.getElem?_eq_some_iff.1 hq).1
        rw [List.length_range] at hlt
        rw [List.getElem?_range hlt] at hq
        obtain rfl := Option.some.inj hq
        exact (hf j hlt).2
    · intro x hx
      obtain ⟨i, hi, rfl⟩ := List.mem_map.1 hx
      exact (hf i (List.mem_range.1 hi)).1
theorem Opens.iso {P : Program} {t : TypeId} {α β : Type} {d : Kd α} {ok : α → Prop} (h : Opens P t d ok) (f : β → α) (g : α → β) (hfg : ∀ y, f (g y) = y) : Opens P t (Kd.iso d f) (fun b => ok (f b)) := by
  intro H enc w base spare held fuel cs x hx
  obtain ⟨a, hK, hok⟩ := h hx
  exact ⟨g a, by show d.K w (f (g a)) cs; rw [hfg]; exact hK, by show ok (f (g a)); rw [hfg]; exact hok⟩

/-- Parts in line: each of a type, at a place. -/
def OpensG (P : Program) {β : Type} (ty : β → TypeId) (at_ : β → Nat) (l : List β) (off : Nat) {α : Type} (d : Kd α) (ok : α → Prop) : Prop :=
  ∀ {H : Type} {enc : TypeId × Value → H} {w : World} {base : Nat} {spare : Nat → Bool} {held : Bool} {fuel : Nat} {cs : List Value} {ys : List (DataW H × List MemPlace)},
    cs.length = off + d.sz → l.mapM (fun b => DataW.trod enc P w base spare held fuel (ty b) ((cs.drop (at_ b)).take (P.cellsOf (ty b)))) = some ys → ∃ a, d.K w a (cs.drop off) ∧ ok a

theorem OpensG.one {P : Program} {β : Type} {ty : β → TypeId} {at_ : β → Nat} {b : β} {off : Nat} {α : Type} {d : Kd α} {ok : α → Prop} (h : Opens P (ty b) d ok) (ha : at_ b = off) (hc : P.cellsOf (ty b) = d.sz) : OpensG P ty at_ [b] off d ok := by
  intro H enc w base spare held fuel cs ys hl hm
  simp only [List.mapM_cons, List.mapM_nil, Option.pure_def, Option.bind_eq_bind, Option.bind_eq_some_iff] at hm
  obtain ⟨y, hy, _⟩ := hm
  rw [ha, hc] at hy
  obtain ⟨a, hK, hok⟩ := h hy
  rw [List.take_of_length_le (by rw [List.length_drop]; omega)] at hK
  exact ⟨a, hK, hok⟩
theorem OpensG.cons {P : Program} {β : Type} {ty : β → TypeId} {at_ : β → Nat} {b : β} {l : List β} {off : Nat} {α γ : Type} {d : Kd α} {ok : α → Prop} {d2 : Kd γ} {ok2 : γ → Prop} (h : Opens P (ty b) d ok) (ha : at_ b = off) (hc : P.cellsOf (ty b) = d.sz)
    (h2 : OpensG P ty at_ l (off + d.sz) d2 ok2) : OpensG P ty at_ (b :: l) off (Kd.pair d d2) (fun p => ok p.1 ∧ ok2 p.2) := by
  intro H enc w base spare held fuel cs ys hl hm
  simp only [List.mapM_cons, Option.pure_def, Option.bind_eq_bind, Option.bind_eq_some_iff] at hm
  obtain ⟨y, hy, zs, hz, _⟩ := hm
  rw [ha, hc] at hy
  obtain ⟨a, hK, hok⟩ := h hy
  have hl' : cs.length = off + (d.sz + d2.sz) := hl
  obtain ⟨c, hK2, hok2⟩ := h2 (by omega) hz
  refine ⟨(a, c), ⟨_, _, ?_, hK, hK2⟩, hok, hok2⟩
  rw [← List.drop_drop, List.take_append_drop]
theorem Opens.struct {P : Program} {t : TypeId} {fs : Array Field} {α : Type} {d : Kd α} {ok : α → Prop} (hu : P.underlying t = some (.struct fs)) (hc : P.cellsOf t = d.sz) (h : OpensG P (fun f : Field => f.type) (fun f => f.offset) fs.toList 0 d ok) : Opens P t d ok := by
  intro H enc w base spare held fuel cs x hx
  cases fuel with
  | zero => simp [DataW.trod] at hx
  | succ n =>
    unfold DataW.trod at hx
    rw [hu] at hx
    split at hx <;> (try simp_all; done)
    all_goals
      rename_i heq
      injection heq with h1
      injection h1 with h2
      subst h2
      split at hx
      · rename_i hl
        obtain ⟨ys, hy, _⟩ := Option.map_eq_some_iff.1 hx
        have := h (by rw [hl, hc]; omega) hy
        simpa using this
      · cases hx
theorem Opens.array {P : Program} {t e : TypeId} {n : Nat} {α : Type} {d : Kd α} {ok : α → Prop} (hu : P.underlying t = some (.array n e)) (hc : P.cellsOf t = d.sz) (h : OpensG P (fun _ : Nat => e) (fun i => i * P.cellsOf e) (List.range n) 0 d ok) : Opens P t d ok := by
  intro H enc w base spare held fuel cs x hx
  cases fuel with
  | zero => simp [DataW.trod] at hx
  | succ m =>
    unfold DataW.trod at hx
    rw [hu] at hx
    split at hx <;> (try simp_all; done)
    all_goals
      rename_i heq
      injection heq with h1
      injection h1 with h2 h3
      subst h2 h3
      split at hx
      · rename_i hl
        obtain ⟨ys, hy, _⟩ := Option.map_eq_some_iff.1 hx
        have := h (by rw [hl, hc]; omega) hy
        simpa using this
      · cases hx
theorem okWide_array {P : Program} {w : World} {r : Reach} {base : Nat} {t e : TypeId} {n : Nat} {v : Value} (ht : P.underlying t = some (.array n e)) (h : Value.okWide P w r base t v) : ∃ cs, v = .agg cs := by
  unfold Value.okWide at h
  rw [ht] at h
  obtain ⟨cs, hcs, _⟩ := h
  exact ⟨cs, hcs⟩
theorem agg_of {cs : Array Value} {l : List Value} (h : (Value.agg cs).cells.toList = l) : cs = l.toArray := by
  rw [← h]; rfl
theorem slice_of {a A : Option Addr} {n m c C : Nat} (h : (Value.slice a n c).cells.toList = [.slice A m C]) : a = A ∧ n = m ∧ c = C := by
  simpa [Value.cells] using h
theorem trod_lt_all {H : Type} {enc : TypeId × Value → H} {P : Program} {w : World} {base : Nat} {spare : Nat → Bool} {held : Bool} {t : TypeId} {v : Value} {d : DataW H} {p : List MemPlace} (h : DataW.Trod enc P w base spare held t v d p) : ∀ x ∈ p, x.block < w.heap.size := by
  obtain ⟨m, hm⟩ := h
  exact DataW.trod_lt m _ _ _ hm
theorem Opens.out {P : Program} {t : TypeId} {α : Type} {d : Kd α} {ok : α → Prop} (h : Opens P t d ok) {H : Type} {enc : TypeId × Value → H} {w : World} {base : Nat} {spare : Nat → Bool} {held : Bool} {fuel : Nat} {cs : List Value} {x : DataW H × List MemPlace}
    (hx : DataW.trod enc P w base spare held fuel t cs = some x) : ∃ a, d.K w a cs ∧ ok a := h hx
attribute [irreducible] Opens OpensG
end Go.Proofs.Ytonafabgbkohlaa.Op


namespace Go.Proofs.Ytonafabgbkohlaa.robinWell
open Go.RowKit Go.Proofs.YtonafabgbkohlaaW.PrintWords Go.Proofs.YtonafabgbkohlaaW.PrintLast Go.Proofs.YtonafabgbkohlaaW.PrintMore Go.Proofs.Ytonafabgbkohlaa.Q
def Pure : Prop := ∀ (a0 : Int) (a1 : Int) (a2 : List S35), (Lit.int .u64 a0).wf = true → (Lit.int .i64 a1).wf = true → (a2.length ≤ maxLen ∧ ∀ x ∈ a2, ((Lit.int .i64 x.f0).wf = true ∧ x.f1.size ≤ maxLen ∧ (Lit.int .i64 x.f2).wf = true)) → sandglasslaw05_RobinWell.f a0 a1 a2 = some true
end Go.Proofs.Ytonafabgbkohlaa.robinWell


namespace Go.Proofs.Ytonafabgbkohlaa.robinWell
open Go.Proofs.Ytonafabgbkohlaa.Q
theorem pure : Pure := by
  unfold Pure
  intros
  rfl
end Go.Proofs.Ytonafabgbkohlaa.robinWell


namespace Go.Proofs.Ytonafabgbkohlaa.robinWell
open Go.ChangeShapes Go.WideShapes Go.ChangeAt Go.RowKit
open Go.Proofs.Ytonafabgbkohlaa.Op Go.Proofs.YtonafabgbkohlaaW.PrintWords Go.Proofs.Ytonafabgbkohlaa.Q
set_option linter.unusedVariables false
theorem own : ownKnob Try.prog.godebug = none := by kernel_rfl
theorem laidOut : laidOutB Try.prog = true := by kernel_rfl
instance : Inhabited S35 := ⟨z35⟩
set_option maxRecDepth 100000 in
set_option maxHeartbeats 2000000 in
theorem lifted (os : Os) (started : os.Started) (H : Type) (enc : TypeId × Value → H) :
    ReturnsInHanded {} Try.checked os 4 .any (Rows.robinWellSpec.pre6 enc Try.prog Try.f4 Rows.robinWellRow.domain false) (Rows.robinWellSpec.post enc Try.prog Try.f4 false true false false) := by
  refine returnsInHanded_of_change_sized (C := Try.checked) own started (by kernel_rfl) Try.func4
    (ChangeSpec.witness6 (enc := enc) (C := Try.checked) false ⟨#[], #[.int .u64 0, .int .i64 0, .slice none 0 0], []⟩ 8 (by kernel_rfl) (by kernel_rfl) (by kernel_rfl) (by kernel_rfl)) ?_
  intro W base args ds gs before hval0 hW hcnd hsz0 _
  have hval : ∀ (j : Nat) t v, Try.f4.params[j]? = some t → args[j]? = some v → Value.okWide Try.prog W .any base t v := hval0
  have hW' := hW
  obtain ⟨p, q, hA0, hV, rfl, hfz, hnd⟩ := hW
  have hA : DataW.TrodAll enc Try.prog W 0 (fun _ => true) true Try.f4.params.toList args.toList ds p := hA0
  rw [Try.params4] at hA hval
  obtain ⟨v0, vs0, d0, ds0, p0, q0, hargs, rfl, rfl, h0, r0⟩ := trodAll_cons hA
  obtain ⟨v1, vs1, d1, ds1, p1, q1, rfl, rfl, rfl, h1, r1⟩ := trodAll_cons r0
  obtain ⟨v2, vs2, d2, ds2, p2, q2, rfl, rfl, rfl, h2, r2⟩ := trodAll_cons r1
  obtain ⟨rfl, rfl, rfl⟩ := trodAll_nil r2
  obtain rfl : args = #[v0, v1, v2] := by cases args; simp_all
  obtain ⟨rfl, rfl⟩ := trodVars_none hV
  have k0 := h0
  obtain ⟨fu0, hf0⟩ := h0
  obtain ⟨va0, rfl⟩ := okWide_int Try.underlying22 (hval 0 22 v0 rfl rfl)
  obtain ⟨a0, hcsa0, oka0⟩ := ((Opens.int Try.underlying22)).out hf0
  obtain rfl : a0 = va0 := by have e_ : [_] = [_] := hcsa0; simp at e_; exact e_.symm
  have k1 := h1
  obtain ⟨fu1, hf1⟩ := h1
  obtain ⟨va1, rfl⟩ := okWide_int Try.underlying3 (hval 1 3 v1 rfl rfl)
  obtain ⟨a1, hcsa1, oka1⟩ := ((Opens.int Try.underlying3)).out hf1
  obtain rfl : a1 = va1 := by have e_ : [_] = [_] := hcsa1; simp at e_; exact e_.symm
  have k2 := h2
  obtain ⟨fu2, hf2⟩ := h2
  obtain ⟨va2, vn2, vc2, rfl⟩ := okWide_slice Try.underlying23 (hval 2 23 v2 rfl rfl)
  obtain ⟨a2, ⟨Aa2, ca2, hcsa2, hca2, hra2⟩, oka2⟩ := ((Opens.slice Try.underlying23 (Opens.iso (Opens.struct Try.underlying35 (by kernel_rfl) (OpensG.cons (Opens.int Try.underlying3) (by kernel_rfl) (by kernel_rfl) (OpensG.cons (Opens.string Try.underlying9) (by kernel_rfl) (by kernel_rfl) (OpensG.one (Opens.int Try.underlying3) (by kernel_rfl) (by kernel_rfl))))) (fun x : S35 => (x.f0, x.f1, x.f2)) (fun y => (⟨y.1, y.2.1, y.2.2⟩ : S35)) (fun _ => rfl)) (by kernel_rfl))).out hf2
  obtain ⟨e1_, e2_, e3_⟩ := slice_of hcsa2
  subst va2; subst vn2; subst vc2
  clear hA0 hval0 hsz0
  have hp := pure a0 a1 a2 oka0 oka1 oka2
  refine (sandglasslaw05_RobinWell.calls a0 a1 Aa2 ca2 a2 true W hra2 hca2 hp).mono fun e W' ⟨he, bel0⟩ => ?_
  have bel : Below W.heap.size W W' := bel0
  subst he
  exact ⟨_, rfl, _, _, _, [], _, [], hW', trodAll_mk1 (shut_bool Try.underlying4 _), (trodAll_cons_mk (Below.trod laidOut (by kernel_rfl) (of_decide_eq_true (by kernel_rfl)) k0 bel (trod_lt_all k0)) (trodAll_cons_mk (Below.trod laidOut (by kernel_rfl) (of_decide_eq_true (by kernel_rfl)) k1 bel (trod_lt_all k1)) (trodAll_cons_mk (Below.trod laidOut (by kernel_rfl) (of_decide_eq_true (by kernel_rfl)) k2 bel (trod_lt_all k2)) trodAll_mk0))), rfl, bel.frame _, fun h => by cases h⟩
theorem over : Rows.robinWellRow.holds Try.pinned (OpenSpec.ofChange Rows.robinWellSpec) :=
  OpenClaim.holds_of_wide 4 Try.f4 rfl rfl rfl rfl rfl rfl rfl ⟨rfl, rfl, rfl, rfl, rfl⟩ rfl rfl rfl rfl rfl (by kernel_rfl) Try.func4 (by kernel_rfl)
    (of_decide_eq_true (by kernel_rfl)) (by unfold Func.isWrapper; first | (rw [if_pos (by decide +kernel)]; kernel_rfl) | (rw [if_neg (by decide +kernel)]; exact ⟨rfl, rfl⟩))
    (fun os started H enc _ => lifted os started H enc)
end Go.Proofs.Ytonafabgbkohlaa.robinWell
namespace Go.Proofs.Ytonafabgbkohlaa
/-- The statement. -/
theorem robinWell_holds : Rows.RobinWellSaid := robinWell.over
#print axioms robinWell_holds
end Go.Proofs.Ytonafabgbkohlaa

