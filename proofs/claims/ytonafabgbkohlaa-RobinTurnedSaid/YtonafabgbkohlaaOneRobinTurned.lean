/- The statement RobinTurned: whatever the input, the law's function returns true and leaves its arguments as they were. No further condition. -/
import Derived.Test.YtonafabgbkohlaaQ17
import Derived.Test.YtonafabgbkohlaaQ18
import Derived.IntWalk
import Derived.Test.YtonafabgbkohlaaQ9
import Derived.Test.YtonafabgbkohlaaQ16
import Derived.Test.YtonafabgbkohlaaQ10
import Derived.Test.YtonafabgbkohlaaQ0
import Derived.Test.YtonafabgbkohlaaQ2
import Derived.Test.YtonafabgbkohlaaQ21
import Derived.Test.YtonafabgbkohlaaQ27
import Derived.RegionTactic
import Derived.ChangeAlike
import Derived.Deep.RegionWith
import Derived.Test.YtonafabgbkohlaaQ14
import Derived.Test.YtonafabgbkohlaaQ13
import Derived.Sort.Walk0
import Derived.Laws.Strings
import Derived.Test.YtonafabgbkohlaaQ15
import Derived.Test.YtonafabgbkohlaaQ19
import Derived.Test.YtonafabgbkohlaaQ12
import Derived.Test.YtonafabgbkohlaaWFoot
import Derived.Deep.Slices
import Derived.OpenShut
import Derived.SizedLaws
import Derived.WideShapes
import Derived.Test.YtonafabgbkohlaaRows
import Derived.WalkKit
import Derived.ProofKit
import Derived.ShutString
import Derived.ChangeOld
import Derived.Below
namespace Go.Proofs.Ytonafabgbkohlaa.La
open Go.RowKit Go.Proofs.YtonafabgbkohlaaW.PrintWords Go.Proofs.YtonafabgbkohlaaW.PrintLast Go.Proofs.YtonafabgbkohlaaW.PrintMore Go.Proofs.Ytonafabgbkohlaa.Q
set_option linter.unusedSimpArgs false
set_option linter.unusedVariables false
abbrev Sl := S52
def sl (l : List Sl) (i : Nat) : Sl := rd_T52 l (i : Int)
theorem sl_set {l : List Sl} {i : Nat} (h : i < l.length) (s : Sl) (j : Nat) : sl (l.set i s) j = if i = j then s else sl l j := by
  unfold sl rd_T52
  rw [Int.toNat_natCast, List.getD_eq_getElem?_getD, List.getD_eq_getElem?_getD, List.getElem?_set]
  by_cases e : i = j
  · subst e; simp [h]
  · simp [e]
theorem sl_self {l : List Sl} {i : Nat} (h : i < l.length) (s : Sl) : sl (l.set i s) i = s := by rw [sl_set h, if_pos rfl]
theorem sl_ne {l : List Sl} {i j : Nat} (h : i < l.length) (s : Sl) (e : i ≠ j) : sl (l.set i s) j = sl l j := by rw [sl_set h, if_neg e]
/-! Places in a ring. -/
theorem step_mod {h d n : Nat} : (h + (d + 1)) % n = ((h + d) % n + 1) % n := by rw [Nat.mod_add_mod, Nat.add_assoc]
theorem add_ne {a e n : Nat} (h1 : a < n) (h2 : 0 < e) (h3 : e < n) : (a + e) % n ≠ a := by
  intro q
  by_cases c : a + e < n
  · rw [Nat.mod_eq_of_lt c] at q; omega
  · rw [Nat.mod_eq_sub_mod (by omega), Nat.mod_eq_of_lt (by omega)] at q; omega
theorem mod_inj {h d D n : Nat} (h0 : 0 < n) (h1 : d < D) (h2 : D < n) : (h + d) % n ≠ (h + D) % n := by
  intro q
  have := add_ne (a := (h + d) % n) (e := D - d) (n := n) (Nat.mod_lt _ h0) (by omega) (by omega)
  rw [Nat.mod_add_mod, show h + d + (D - d) = h + D by omega] at this
  exact this q.symm
theorem nx_inj {i j n : Nat} (hi : i < n) (hj : j < n) (h : (i + 1) % n = (j + 1) % n) : i = j := by
  by_cases a : i + 1 < n
  · rw [Nat.mod_eq_of_lt a] at h
    by_cases c : j + 1 < n
    · rw [Nat.mod_eq_of_lt c] at h; omega
    · rw [show j + 1 = n by omega, Nat.mod_self] at h; omega
  · rw [show i + 1 = n by omega, Nat.mod_self] at h
    by_cases c : j + 1 < n
    · rw [Nat.mod_eq_of_lt c] at h; omega
    · omega
/-- Keys stand where their homes and dists say; none is further from home than the one ahead by more than one. -/
structure Inv (hm : ByteArray → Nat) (l : List Sl) : Prop where
  pos : ∀ i, i < l.length → (sl l i).f0 = true → ∃ d : Nat, (sl l i).f3 = (d : Int) ∧ d < l.length ∧ (hm (sl l i).f1 + d) % l.length = i
  prev : ∀ i, i < l.length → (sl l ((i + 1) % l.length)).f0 = true → 0 < (sl l ((i + 1) % l.length)).f3 → (sl l i).f0 = true ∧ (sl l ((i + 1) % l.length)).f3 ≤ (sl l i).f3 + 1
  uniq : ∀ i j, i < l.length → j < l.length → (sl l i).f0 = true → (sl l j).f0 = true → (sl l i).f1 = (sl l j).f1 → i = j
  zero : ∀ i, i < l.length → (sl l i).f0 = false → sl l i = zeroS
/-- Back from a key to its home all is used, and far enough from home. -/
theorem back {l : List Sl} (hn : 0 < l.length) (prev : ∀ i, i < l.length → (sl l ((i + 1) % l.length)).f0 = true → 0 < (sl l ((i + 1) % l.length)).f3 → (sl l i).f0 = true ∧ (sl l ((i + 1) % l.length)).f3 ≤ (sl l i).f3 + 1) (h D : Nat) (hu : (sl l ((h + D) % l.length)).f0 = true) (hd : (D : Int) ≤ (sl l ((h + D) % l.length)).f3) : ∀ e, e ≤ D → (sl l ((h + (D - e)) % l.length)).f0 = true ∧ ((D - e : Nat) : Int) ≤ (sl l ((h + (D - e)) % l.length)).f3
  | 0, _ => ⟨hu, hd⟩
  | e + 1, he => by
    obtain ⟨i1, i2⟩ := back hn prev h D hu hd e (by omega)
    rw [show D - e = (D - (e + 1)) + 1 by omega, step_mod] at i1 i2
    obtain ⟨p1, p2⟩ := prev _ (Nat.mod_lt _ hn) i1 (by omega)
    exact ⟨p1, by omega⟩
theorem findL_some {l : List Sl} {key : ByteArray} {h : Nat} : ∀ {r d i : Nat}, findL l key h r d = some i → (sl l i).f0 = true ∧ (sl l i).f1 = key
  | 0, d, i, e => by simp [findL] at e
  | r + 1, d, i, e => by
    rw [findL] at e
    split at e
    · cases e
    · rename_i h1
      split at e
      · cases e
      · split at e
        · rename_i h3
          obtain rfl := Option.some.inj e
          exact ⟨by rw [Bool.not_eq_false] at h1; exact h1, h3⟩
        · exact findL_some e
theorem findL_at {hm : ByteArray → Nat} {l : List Sl} (hn : 0 < l.length) (I : Inv hm l) {key : ByteArray} {D : Nat} (hD : D < l.length) (hu : (sl l ((hm key + D) % l.length)).f0 = true) (hk : (sl l ((hm key + D) % l.length)).f1 = key) (hd : (sl l ((hm key + D) % l.length)).f3 = (D : Int)) : ∀ (e d r : Nat), D - d = e → d ≤ D → D < d + r → findL l key (hm key) r d = some ((hm key + D) % l.length)
  | _, _, 0, _, h2, h3 => by omega
  | 0, d, r + 1, h1, h2, h3 => by
    obtain rfl : d = D := by omega
    rw [findL]
    rw [if_neg (by show ¬ (sl l _).f0 = false; rw [hu]; simp), if_neg (by show ¬ (sl l _).f3 < _; rw [hd]; omega)]
    exact if_pos hk
  | e + 1, d, r + 1, h1, h2, h3 => by
    obtain ⟨b1, b2⟩ := back hn I.prev (hm key) D hu (by omega) (D - d) (by omega)
    rw [show D - (D - d) = d by omega] at b1 b2
    have hne : ¬ (sl l ((hm key + d) % l.length)).f1 = key := fun q => mod_inj hn (show d < D by omega) hD (I.uniq _ _ (Nat.mod_lt _ hn) (Nat.mod_lt _ hn) b1 hu (q.trans hk.symm))
    rw [findL]
    rw [if_neg (by show ¬ (sl l _).f0 = false; rw [b1]; simp), if_neg (by show ¬ (sl l _).f3 < _; omega)]
    refine (if_neg hne).trans ?_
    exact findL_at hn I hD hu hk hd e (d + 1) r (by omega) (by omega) (by omega)
/-- find finds just the slot of the key. -/
theorem find_iff {hm : ByteArray → Nat} {l : List Sl} (hn : 0 < l.length) (I : Inv hm l) {key : ByteArray} {i : Nat} : findL l key (hm key) l.length 0 = some i ↔ i < l.length ∧ (sl l i).f0 = true ∧ (sl l i).f1 = key := by
  constructor
  · intro h
    obtain ⟨h1, h2⟩ := findL_some h
    exact ⟨findL_lt hn h, h1, h2⟩
  · rintro ⟨hi, hu, hk⟩
    obtain ⟨D, d1, d2, d3⟩ := I.pos i hi hu
    rw [hk] at d3
    subst d3
    exact findL_at hn I d2 hu hk d1 D 0 l.length rfl (Nat.zero_le _) (by omega)
/-! How many are used; sums of dists. -/
def bn (s : Sl) : Nat := if s.f0 = true then 1 else 0
def cnt : List Sl → Nat
  | [] => 0
  | s :: l => bn s + cnt l
theorem sl_cons (s : Sl) (l : List Sl) (i : Nat) : sl (s :: l) (i + 1) = sl l i := by unfold sl rd_T52; rw [Int.toNat_natCast, Int.toNat_natCast]; rfl
theorem sl_zero (s : Sl) (l : List Sl) : sl (s :: l) 0 = s := rfl
theorem cnt_set : ∀ (l : List Sl) (i : Nat) (s : Sl), i < l.length → cnt (l.set i s) + bn (sl l i) = cnt l + bn s
  | [], _, _, h => by simp at h
  | x :: l, 0, s, _ => by rw [sl_zero]; simp only [List.set_cons_zero, cnt]; omega
  | x :: l, i + 1, s, h => by
    have := cnt_set l i s (by simpa using h)
    rw [sl_cons]
    simp only [List.set_cons_succ, cnt]
    omega
theorem cnt_le : ∀ l : List Sl, cnt l ≤ l.length
  | [] => Nat.le_refl _
  | s :: l => by have := cnt_le l; simp only [cnt, List.length_cons, bn]; split <;> omega
theorem cnt_free : ∀ l : List Sl, cnt l < l.length → ∃ i, i < l.length ∧ (sl l i).f0 = false
  | [], h => by simp [cnt] at h
  | s :: l, h => by
    by_cases e : s.f0 = true
    · obtain ⟨i, h1, h2⟩ := cnt_free l (by simp only [cnt, bn, if_pos e, List.length_cons] at h; omega)
      exact ⟨i + 1, by simpa using h1, by rw [sl_cons]; exact h2⟩
    · exact ⟨0, by simp, by rw [sl_zero]; simpa using e⟩
theorem cnt_full : ∀ l : List Sl, cnt l = l.length → ∀ i, i < l.length → (sl l i).f0 = true
  | [], _, _, h => by simp at h
  | s :: l, h, i, hi => by
    have := cnt_le l
    simp only [cnt, bn, List.length_cons] at h
    split at h
    · rename_i hs
      cases i with
      | zero => rw [sl_zero]; exact hs
      | succ i => rw [sl_cons]; exact cnt_full l (by omega) i (by simpa using hi)
    · omega
def sumD : List Sl → Nat
  | [] => 0
  | s :: l => s.f3.toNat + sumD l
theorem sumD_set : ∀ (l : List Sl) (i : Nat) (s : Sl), i < l.length → sumD (l.set i s) + (sl l i).f3.toNat = sumD l + s.f3.toNat
  | [], _, _, h => by simp at h
  | x :: l, 0, s, _ => by rw [sl_zero]; simp only [List.set_cons_zero, sumD]; omega
  | x :: l, i + 1, s, h => by
    have := sumD_set l i s (by simpa using h)
    rw [sl_cons]
    simp only [List.set_cons_succ, sumD]
    omega
theorem sumD_at : ∀ (l : List Sl) (i : Nat), i < l.length → (sl l i).f3.toNat ≤ sumD l
  | [], _, h => by simp at h
  | x :: l, 0, _ => by rw [sl_zero]; simp only [sumD]; omega
  | x :: l, i + 1, h => by
    have := sumD_at l i (by simpa using h)
    rw [sl_cons]; simp only [sumD]; omega
end Go.Proofs.Ytonafabgbkohlaa.La


namespace Go.Proofs.Ytonafabgbkohlaa.La
open Go.RowKit Go.Proofs.YtonafabgbkohlaaW.PrintWords Go.Proofs.YtonafabgbkohlaaW.PrintLast Go.Proofs.YtonafabgbkohlaaW.PrintMore Go.Proofs.Ytonafabgbkohlaa.Q
set_option linter.unusedSimpArgs false
set_option linter.unusedVariables false
theorem wr {x : Int} (h0 : -9223372036854775808 ≤ x) (h1 : x < 9223372036854775808) : wrap64 x = x := by unfold wrap64; omega
/-- A key stands in a table, with a value. -/
def Has (l : List Sl) (k : ByteArray) (v : Int) : Prop := ∃ i, i < l.length ∧ (sl l i).f0 = true ∧ (sl l i).f1 = k ∧ (sl l i).f2 = v
theorem has_set {l : List Sl} {i : Nat} (hi : i < l.length) {x : Sl} (hx : x.f0 = true) (k : ByteArray) (v : Int) : Has (l.set i x) k v ↔ (x.f1 = k ∧ x.f2 = v) ∨ ∃ j, j < l.length ∧ j ≠ i ∧ (sl l j).f0 = true ∧ (sl l j).f1 = k ∧ (sl l j).f2 = v := by
  constructor
  · rintro ⟨j, h1, h2, h3, h4⟩
    rw [List.length_set] at h1
    by_cases e : i = j
    · subst e; rw [sl_self hi] at h3 h4; exact Or.inl ⟨h3, h4⟩
    · rw [sl_ne hi _ e] at h2 h3 h4; exact Or.inr ⟨j, h1, fun q => e q.symm, h2, h3, h4⟩
  · rintro (⟨h1, h2⟩ | ⟨j, h1, h2, h3, h4, h5⟩)
    · exact ⟨i, by rw [List.length_set]; exact hi, by rw [sl_self hi]; exact hx, by rw [sl_self hi]; exact h1, by rw [sl_self hi]; exact h2⟩
    · have e : i ≠ j := fun q => h2 q.symm
      exact ⟨j, by rw [List.length_set]; exact h1, by rw [sl_ne hi _ e]; exact h3, by rw [sl_ne hi _ e]; exact h4, by rw [sl_ne hi _ e]; exact h5⟩
theorem inv_put {hm : ByteArray → Nat} {l : List Sl} {i d : Nat} {x : Sl} (h2 : 2 ≤ l.length) (hi : i < l.length) (I : Inv hm l) (xu : x.f0 = true) (xd : x.f3 = (d : Int)) (dn : d < l.length) (xh : (hm x.f1 + d) % l.length = i)
    (xp : ∀ p, p < l.length → (p + 1) % l.length = i → 0 < d → (sl l p).f0 = true ∧ (d : Int) ≤ (sl l p).f3 + 1) (xn : ∀ j, j < l.length → (sl l j).f0 = true → (sl l j).f1 ≠ x.f1)
    (nx : (sl l ((i + 1) % l.length)).f0 = true → 0 < (sl l ((i + 1) % l.length)).f3 → (sl l ((i + 1) % l.length)).f3 ≤ x.f3 + 1) : Inv hm (l.set i x) := by
  have hne : ∀ p, p < l.length → (p + 1) % l.length ≠ p := fun p hp => add_ne hp (by omega) (by omega)
  refine ⟨?_, ?_, ?_, ?_⟩
  · intro j hj hu
    rw [List.length_set] at hj ⊢
    by_cases e : i = j
    · subst e; rw [sl_self hi]; exact ⟨d, xd, dn, xh⟩
    · rw [sl_ne hi _ e] at hu ⊢; exact I.pos j hj hu
  · intro j hj
    rw [List.length_set] at hj ⊢
    by_cases e : i = (j + 1) % l.length
    · rw [← e, sl_self hi, sl_ne hi _ (fun q => hne j hj (by rw [← e, q]))]
      intro _ h0
      rw [xd] at h0 ⊢
      exact xp j hj e.symm (by omega)
    · rw [sl_ne hi _ e]
      by_cases e2 : i = j
      · subst e2
        rw [sl_self hi]
        intro h3 h4
        exact ⟨xu, nx h3 h4⟩
      · rw [sl_ne hi _ e2]; exact I.prev j hj
  · intro a c ha hc
    rw [List.length_set] at ha hc
    by_cases e : i = a
    · subst e
      by_cases e2 : i = c
      · intro _ _ _; exact e2
      · rw [sl_self hi, sl_ne hi _ e2]
        intro _ h3 h4; exact absurd h4.symm (xn c hc h3)
    · by_cases e2 : i = c
      · subst e2
        rw [sl_self hi, sl_ne hi _ e]
        intro h3 _ h4; exact absurd h4 (xn a ha h3)
      · rw [sl_ne hi _ e, sl_ne hi _ e2]; exact I.uniq a c ha hc
  · intro j hj
    rw [List.length_set] at hj
    by_cases e : i = j
    · subst e; rw [sl_self hi, xu]; intro h; cases h
    · rw [sl_ne hi _ e]; exact I.zero j hj
theorem putL_ok (hm : ByteArray → Nat) : ∀ (m : Nat) (l : List Sl) (i u d : Nat) (x : Sl), 2 ≤ l.length → l.length ≤ 100000 → i < l.length → u < l.length → (sl l u).f0 = false → (i + m) % l.length = u → d + m < l.length → Inv hm l → x.f0 = true → x.f3 = (d : Int) → (hm x.f1 + d) % l.length = i →
    (∀ p, p < l.length → (p + 1) % l.length = i → 0 < d → (sl l p).f0 = true ∧ (d : Int) ≤ (sl l p).f3 + 1) → (∀ j, j < l.length → (sl l j).f0 = true → (sl l j).f1 ≠ x.f1) → ∀ k, m + 1 ≤ k →
    ∃ l', putL k l i x = some l' ∧ Inv hm l' ∧ l'.length = l.length ∧ cnt l' = cnt l + 1 ∧ ∀ key v, Has l' key v ↔ Has l key v ∨ (x.f1 = key ∧ x.f2 = v) := by
  intro m
  induction m with
  | zero =>
    intro l i u d x h2 hN hi hu huf hiu hdm I xu xd xh xp xn k hk
    obtain ⟨k, rfl⟩ : ∃ q, k = q + 1 := ⟨k - 1, by omega⟩
    rw [Nat.add_zero, Nat.mod_eq_of_lt hi] at hiu
    subst hiu
    refine ⟨l.set i x, ?_, ?_, List.length_set .., ?_, ?_⟩
    · rw [putL]; exact if_pos huf
    · refine inv_put h2 hi I xu xd (by omega) xh xp xn (fun h3 h4 => ?_)
      have := (I.prev i hi h3 h4).1
      rw [huf] at this; cases this
    · have := cnt_set l i x hi
      simp only [bn, huf, xu] at this
      simpa using this
    · intro key v
      rw [has_set hi xu]
      constructor
      · rintro (h | ⟨j, h1, h3, h4, h5, h6⟩)
        · exact Or.inr h
        · exact Or.inl ⟨j, h1, h4, h5, h6⟩
      · rintro (⟨j, h1, h4, h5, h6⟩ | h)
        · exact Or.inr ⟨j, h1, (fun e => by rw [e, huf] at h4; cases h4), h4, h5, h6⟩
        · exact Or.inl h
  | succ m ih =>
    intro l i u d x h2 hN hi hu huf hiu hdm I xu xd xh xp xn k hk
    obtain ⟨k, rfl⟩ : ∃ q, k = q + 1 := ⟨k - 1, by omega⟩
    by_cases hf : (sl l i).f0 = false
    · refine ⟨l.set i x, ?_, ?_, List.length_set .., ?_, ?_⟩
      · rw [putL]; exact if_pos hf
      · refine inv_put h2 hi I xu xd (by omega) xh xp xn (fun h3 h4 => ?_)
        have := (I.prev i hi h3 h4).1
        rw [hf] at this; cases this
      · have := cnt_set l i x hi
        simp only [bn, hf, xu] at this
        simpa using this
      · intro key v
        rw [has_set hi xu]
        constructor
        · rintro (h | ⟨j, h1, h3, h4, h5, h6⟩)
          · exact Or.inr h
          · exact Or.inl ⟨j, h1, h4, h5, h6⟩
        · rintro (⟨j, h1, h4, h5, h6⟩ | h)
          · exact Or.inr ⟨j, h1, (fun e => by rw [e, hf] at h4; cases h4), h4, h5, h6⟩
          · exact Or.inl h
    have hfu : (sl l i).f0 = true := by rw [Bool.not_eq_false] at hf; exact hf
    have hiu2 : i ≠ u := fun e => by rw [e, huf] at hfu; cases hfu
    have hi2 : (i + 1) % l.length < l.length := Nat.mod_lt _ (by omega)
    have hst : ((i + 1) % l.length + m) % l.length = u := by rw [Nat.mod_add_mod, ← hiu]; congr 1; omega
    obtain ⟨ds, s1, s2, s3⟩ := I.pos i hi hfu
    by_cases hlt : (sl l i).f3 < x.f3
    · have e : putL (k + 1) l i x = putL k (l.set i x) ((i + 1) % l.length) ⟨(sl l i).f0, (sl l i).f1, (sl l i).f2, wrap64 ((sl l i).f3 + 1)⟩ := by
        rw [putL]; exact (if_neg hf).trans (if_pos hlt)
      have I1 : Inv hm (l.set i x) := inv_put h2 hi I xu xd (by omega) xh xp xn (fun h3 h4 => by
        have := (I.prev i hi h3 h4).2; omega)
      have hw : wrap64 ((sl l i).f3 + 1) = ((ds + 1 : Nat) : Int) := by rw [wr (by omega) (by omega)]; omega
      obtain ⟨l', r1, r2, r3, r4, r5⟩ := ih (l.set i x) ((i + 1) % l.length) u (ds + 1) ⟨(sl l i).f0, (sl l i).f1, (sl l i).f2, wrap64 ((sl l i).f3 + 1)⟩ (by rw [List.length_set]; exact h2) (by rw [List.length_set]; exact hN) (by rw [List.length_set]; exact hi2) (by rw [List.length_set]; exact hu) (by rw [sl_ne hi _ hiu2]; exact huf) (by rw [List.length_set]; exact hst) (by rw [List.length_set]; omega) I1 hfu hw (by rw [List.length_set]; show (hm (sl l i).f1 + (ds + 1)) % l.length = _; rw [step_mod, s3])
        (by
          rw [List.length_set]
          intro p hp hpe _
          obtain rfl := nx_inj hp hi hpe
          rw [sl_self hi]
          exact ⟨xu, by rw [xd]; omega⟩)
        (by
          rw [List.length_set]
          intro j hj hju
          by_cases e2 : i = j
          · subst e2; rw [sl_self hi]; exact fun q => xn i hi hfu q.symm
          · rw [sl_ne hi _ e2] at hju ⊢
            exact fun q => e2 (I.uniq i j hi hj hfu hju q.symm)) k (by omega)
      refine ⟨l', e.trans r1, r2, r3.trans (List.length_set ..), ?_, ?_⟩
      · have := cnt_set l i x hi
        simp only [bn, hfu, xu, if_true] at this
        omega
      · intro key v
        rw [r5, has_set hi xu]
        constructor
        · rintro ((h | ⟨j, h1, h3, h4, h5, h6⟩) | h)
          · exact Or.inr h
          · exact Or.inl ⟨j, h1, h4, h5, h6⟩
          · exact Or.inl ⟨i, hi, hfu, h.1, h.2⟩
        · rintro (⟨j, h1, h4, h5, h6⟩ | h)
          · by_cases e2 : j = i
            · subst e2; exact Or.inr ⟨h5, h6⟩
            · exact Or.inl (Or.inr ⟨j, h1, e2, h4, h5, h6⟩)
          · exact Or.inl (Or.inl h)
    · have e : putL (k + 1) l i x = putL k l ((i + 1) % l.length) ⟨x.f0, x.f1, x.f2, wrap64 (x.f3 + 1)⟩ := by
        rw [putL]; exact (if_neg hf).trans (if_neg hlt)
      have hw : wrap64 (x.f3 + 1) = ((d + 1 : Nat) : Int) := by rw [wr (by omega) (by omega)]; omega
      obtain ⟨l', r1, r2, r3, r4, r5⟩ := ih l ((i + 1) % l.length) u (d + 1) ⟨x.f0, x.f1, x.f2, wrap64 (x.f3 + 1)⟩ h2 hN hi2 hu huf hst (by omega) I xu hw (by show (hm x.f1 + (d + 1)) % l.length = _; rw [step_mod, xh])
        (by
          intro p hp hpe _
          obtain rfl := nx_inj hp hi hpe
          exact ⟨hfu, by omega⟩) xn k (by omega)
      exact ⟨l', e.trans r1, r2, r3, r4, r5⟩
/-- Well but for a hole, where what stood is still to be seen. -/
structure InvH (hm : ByteArray → Nat) (l : List Sl) (i : Nat) : Prop where
  hi : i < l.length
  used : (sl l i).f0 = true
  pos : ∀ i, i < l.length → (sl l i).f0 = true → ∃ d : Nat, (sl l i).f3 = (d : Int) ∧ d < l.length ∧ (hm (sl l i).f1 + d) % l.length = i
  prev : ∀ i, i < l.length → (sl l ((i + 1) % l.length)).f0 = true → 0 < (sl l ((i + 1) % l.length)).f3 → (sl l i).f0 = true ∧ (sl l ((i + 1) % l.length)).f3 ≤ (sl l i).f3 + 1
  uniq : ∀ a c, a < l.length → c < l.length → a ≠ i → c ≠ i → (sl l a).f0 = true → (sl l c).f0 = true → (sl l a).f1 = (sl l c).f1 → a = c
  zero : ∀ i, i < l.length → (sl l i).f0 = false → sl l i = zeroS
theorem Inv.hole {hm : ByteArray → Nat} {l : List Sl} {i : Nat} (I : Inv hm l) (hi : i < l.length) (hu : (sl l i).f0 = true) : InvH hm l i := ⟨hi, hu, I.pos, I.prev, fun a c ha hc _ _ => I.uniq a c ha hc, I.zero⟩
def HasX (l : List Sl) (i : Nat) (k : ByteArray) (v : Int) : Prop := ∃ j, j < l.length ∧ j ≠ i ∧ (sl l j).f0 = true ∧ (sl l j).f1 = k ∧ (sl l j).f2 = v
theorem delL_ok (hm : ByteArray → Nat) : ∀ (T : Nat) (l : List Sl) (i : Nat), 2 ≤ l.length → l.length ≤ 100000 → InvH hm l i → sumD l = T + (sl l i).f3.toNat → ∀ k, T + 1 ≤ k →
    ∃ m j, delL k l i = some (m, j) ∧ InvH hm m j ∧ m.length = l.length ∧ cnt m = cnt l ∧ ((sl m ((j + 1) % m.length)).f0 = false ∨ (sl m ((j + 1) % m.length)).f3 = 0) ∧ ∀ key v, HasX m j key v ↔ HasX l i key v := by
  intro T
  induction T with
  | zero =>
    intro l i h2 hN I hT k hk
    obtain ⟨k, rfl⟩ : ∃ q, k = q + 1 := ⟨k - 1, by omega⟩
    have hj : (i + 1) % l.length < l.length := Nat.mod_lt _ (by omega)
    have hne : (i + 1) % l.length ≠ i := add_ne I.hi (by omega) (by omega)
    have hz : (sl l ((i + 1) % l.length)).f0 = false ∨ (sl l ((i + 1) % l.length)).f3 = 0 := by
      by_cases hf : (sl l ((i + 1) % l.length)).f0 = false
      · exact Or.inl hf
      · rw [Bool.not_eq_false] at hf
        obtain ⟨d, d1, _, _⟩ := I.pos _ hj hf
        have q := sumD_set l i zeroS I.hi
        have q2 := sumD_at (l.set i zeroS) ((i + 1) % l.length) (by rw [List.length_set]; exact hj)
        rw [sl_ne I.hi _ (fun e => hne e.symm)] at q2
        have q3 : zeroS.f3.toNat = 0 := rfl
        right; omega
    refine ⟨l, i, ?_, I, rfl, rfl, hz, fun _ _ => Iff.rfl⟩
    rw [delL]
    rcases hz with hz | hz
    · exact if_pos hz
    · by_cases hf : (sl l ((i + 1) % l.length)).f0 = false
      · exact if_pos hf
      · exact (if_neg hf).trans (if_pos hz)
  | succ T ih =>
    intro l i h2 hN I hT k hk
    obtain ⟨k, rfl⟩ : ∃ q, k = q + 1 := ⟨k - 1, by omega⟩
    have hi := I.hi
    have hj : (i + 1) % l.length < l.length := Nat.mod_lt _ (by omega)
    have hne : (i + 1) % l.length ≠ i := add_ne hi (by omega) (by omega)
    have hne2 : i ≠ (i + 1) % l.length := fun e => hne e.symm
    by_cases hf : (sl l ((i + 1) % l.length)).f0 = false
    · exact ⟨l, i, by rw [delL]; exact if_pos hf, I, rfl, rfl, Or.inl hf, fun _ _ => Iff.rfl⟩
    by_cases hz : (sl l ((i + 1) % l.length)).f3 = 0
    · exact ⟨l, i, by rw [delL]; exact (if_neg hf).trans (if_pos hz), I, rfl, rfl, Or.inr hz, fun _ _ => Iff.rfl⟩
    have hfu : (sl l ((i + 1) % l.length)).f0 = true := by rw [Bool.not_eq_false] at hf; exact hf
    obtain ⟨d, d1, d2, d3⟩ := I.pos _ hj hfu
    obtain ⟨di, e1, e2, e3⟩ := I.pos i hi I.used
    obtain ⟨d0, rfl⟩ : ∃ q, d = q + 1 := ⟨d - 1, by omega⟩
    have hprev := (I.prev i hi hfu (by omega)).2
    have hw : wrap64 ((sl l ((i + 1) % l.length)).f3 - 1) = (d0 : Int) := by rw [wr (by omega) (by omega)]; omega
    have hd0 : (hm (sl l ((i + 1) % l.length)).f1 + d0) % l.length = i := nx_inj (Nat.mod_lt _ (by omega)) hi (by rw [← step_mod]; exact d3)
    have e : delL (k + 1) l i = delL k (l.set i ⟨(sl l ((i + 1) % l.length)).f0, (sl l ((i + 1) % l.length)).f1, (sl l ((i + 1) % l.length)).f2, wrap64 ((sl l ((i + 1) % l.length)).f3 - 1)⟩) ((i + 1) % l.length) := by
      rw [delL]; exact (if_neg hf).trans (if_neg hz)
    rw [hw] at e
    obtain ⟨x, hx⟩ : ∃ x : Sl, x = ⟨(sl l ((i + 1) % l.length)).f0, (sl l ((i + 1) % l.length)).f1, (sl l ((i + 1) % l.length)).f2, (d0 : Int)⟩ := ⟨_, rfl⟩
    have x0 : x.f0 = true := by rw [hx]; exact hfu
    have x1 : x.f1 = (sl l ((i + 1) % l.length)).f1 := by rw [hx]
    have x2 : x.f2 = (sl l ((i + 1) % l.length)).f2 := by rw [hx]
    have x3 : x.f3 = (d0 : Int) := by rw [hx]
    rw [← hx] at e
    clear hx hw
    have I1 : InvH hm (l.set i x) ((i + 1) % l.length) := by
      refine ⟨by rw [List.length_set]; exact hj, by rw [sl_ne hi _ hne2]; exact hfu, ?_, ?_, ?_, ?_⟩
      · intro a ha hu
        rw [List.length_set] at ha ⊢
        by_cases c : i = a
        · subst c; rw [sl_self hi]; exact ⟨d0, x3, by omega, by rw [x1]; exact hd0⟩
        · rw [sl_ne hi _ c] at hu ⊢; exact I.pos a ha hu
      · intro p hp
        rw [List.length_set] at hp ⊢
        have hpn : (p + 1) % l.length ≠ p := add_ne hp (by omega) (by omega)
        by_cases c : i = (p + 1) % l.length
        · rw [← c, sl_self hi, sl_ne hi _ (fun q => hpn (by rw [← c, q]))]
          intro _ h0
          have := I.prev p hp (by rw [← c]; exact I.used) (by rw [← c]; omega)
          rw [← c] at this
          exact ⟨this.1, by omega⟩
        · rw [sl_ne hi _ c]
          by_cases c2 : i = p
          · subst c2; rw [sl_self hi]; intro _ _; exact ⟨x0, by omega⟩
          · rw [sl_ne hi _ c2]; exact I.prev p hp
      · intro a c ha hc na nc
        rw [List.length_set] at ha hc
        by_cases q : i = a
        · subst q
          by_cases q2 : i = c
          · intro _ _ _; exact q2
          · rw [sl_self hi, sl_ne hi _ q2, x1]
            intro _ h3 h4
            exact absurd (I.uniq c _ hc hj (fun z => q2 z.symm) hne h3 hfu h4.symm) nc
        · by_cases q2 : i = c
          · subst q2
            rw [sl_self hi, sl_ne hi _ q, x1]
            intro h3 _ h4
            exact absurd (I.uniq a _ ha hj (fun z => q z.symm) hne h3 hfu h4) na
          · rw [sl_ne hi _ q, sl_ne hi _ q2]
            exact I.uniq a c ha hc (fun z => q z.symm) (fun z => q2 z.symm)
      · intro a ha
        rw [List.length_set] at ha
        by_cases c : i = a
        · subst c; rw [sl_self hi, x0]; intro h; cases h
        · rw [sl_ne hi _ c]; exact I.zero a ha
    have hs := sumD_set l i x hi
    obtain ⟨m, j, r1, r2, r3, r4, r5, r6⟩ := ih (l.set i x) ((i + 1) % l.length) (by rw [List.length_set]; exact h2) (by rw [List.length_set]; exact hN) I1 (by rw [sl_ne hi _ hne2]; rw [x3] at hs; omega) k (by omega)
    refine ⟨m, j, e.trans r1, r2, r3.trans (List.length_set ..), ?_, r5, ?_⟩
    · have := cnt_set l i x hi
      simp only [bn, I.used, x0, if_true] at this
      omega
    · intro key v
      rw [r6]
      constructor
      · rintro ⟨a, a1, a2, a3, a4, a5⟩
        rw [List.length_set] at a1
        by_cases c : i = a
        · subst c
          rw [sl_self hi] at a3 a4 a5
          exact ⟨_, hj, hne, hfu, x1 ▸ a4, x2 ▸ a5⟩
        · rw [sl_ne hi _ c] at a3 a4 a5
          exact ⟨a, a1, fun q => c q.symm, a3, a4, a5⟩
      · rintro ⟨a, a1, a2, a3, a4, a5⟩
        by_cases c : a = (i + 1) % l.length
        · subst c
          exact ⟨i, by rw [List.length_set]; exact hi, hne2, by rw [sl_self hi]; exact x0, by rw [sl_self hi, x1]; exact a4, by rw [sl_self hi, x2]; exact a5⟩
        · have q : i ≠ a := fun q => a2 q.symm
          exact ⟨a, by rw [List.length_set]; exact a1, c, by rw [sl_ne hi _ q]; exact a3, by rw [sl_ne hi _ q]; exact a4, by rw [sl_ne hi _ q]; exact a5⟩
theorem hole_shut {hm : ByteArray → Nat} {l : List Sl} {i : Nat} (h2 : 2 ≤ l.length) (I : InvH hm l i) (hs : (sl l ((i + 1) % l.length)).f0 = false ∨ (sl l ((i + 1) % l.length)).f3 = 0) : Inv hm (l.set i zeroS) ∧ cnt (l.set i zeroS) + 1 = cnt l ∧ ∀ key v, Has (l.set i zeroS) key v ↔ HasX l i key v := by
  have hi := I.hi
  have z0 : zeroS.f0 = false := rfl
  refine ⟨⟨?_, ?_, ?_, ?_⟩, ?_, ?_⟩
  · intro a ha hu
    rw [List.length_set] at ha ⊢
    by_cases c : i = a
    · subst c; rw [sl_self hi, z0] at hu; cases hu
    · rw [sl_ne hi _ c] at hu ⊢; exact I.pos a ha hu
  · intro p hp
    rw [List.length_set] at hp ⊢
    by_cases c : i = (p + 1) % l.length
    · rw [← c, sl_self hi, z0]; intro h; cases h
    · rw [sl_ne hi _ c]
      by_cases c2 : i = p
      · subst c2
        intro h3 h4
        rcases hs with hs | hs
        · rw [hs] at h3; cases h3
        · omega
      · rw [sl_ne hi _ c2]; exact I.prev p hp
  · intro a c ha hc
    rw [List.length_set] at ha hc
    by_cases q : i = a
    · subst q; rw [sl_self hi, z0]; intro h; cases h
    · by_cases q2 : i = c
      · subst q2; rw [sl_self hi, z0]; intro _ h; cases h
      · rw [sl_ne hi _ q, sl_ne hi _ q2]; exact I.uniq a c ha hc (fun z => q z.symm) (fun z => q2 z.symm)
  · intro a ha
    rw [List.length_set] at ha
    by_cases c : i = a
    · subst c; rw [sl_self hi]; intro _; rfl
    · rw [sl_ne hi _ c]; exact I.zero a ha
  · have := cnt_set l i zeroS hi
    simp only [bn, I.used, z0, if_true] at this
    simpa using this
  · intro key v
    constructor
    · rintro ⟨a, a1, a2, a3⟩
      rw [List.length_set] at a1
      by_cases c : i = a
      · subst c; rw [sl_self hi, z0] at a2; cases a2
      · rw [sl_ne hi _ c] at a2 a3; exact ⟨a, a1, fun q => c q.symm, a2, a3⟩
    · rintro ⟨a, a1, a2, a3, a4, a5⟩
      have c : i ≠ a := fun q => a2 q.symm
      exact ⟨a, by rw [List.length_set]; exact a1, by rw [sl_ne hi _ c]; exact a3, by rw [sl_ne hi _ c]; exact a4, by rw [sl_ne hi _ c]; exact a5⟩
end Go.Proofs.Ytonafabgbkohlaa.La


namespace Go.Proofs.Ytonafabgbkohlaa.La
open Go.RowKit Go.Proofs.YtonafabgbkohlaaW.PrintWords Go.Proofs.YtonafabgbkohlaaW.PrintLast Go.Proofs.YtonafabgbkohlaaW.PrintMore Go.Proofs.Ytonafabgbkohlaa.Q
set_option linter.unusedSimpArgs false
set_option linter.unusedVariables false
/-- A table that is well, of 2 to the power of b slots, holds just what f says. -/
structure TF (sd : Int) (b : Nat) (l : List Sl) (us : Int) (f : ByteArray → Option Int) : Prop where
  b0 : 1 ≤ b
  b1 : b ≤ 8
  len : l.length = 2 ^ b
  inv : Inv (homeN sd b) l
  us : us = (cnt l : Int)
  has : ∀ k v, Has l k v ↔ f k = some v
def upd (f : ByteArray → Option Int) (k : ByteArray) (o : Option Int) : ByteArray → Option Int := fun q => if q = k then o else f q
section
variable {sd : Int} {b : Nat} {l : List Sl} {us : Int} {f : ByteArray → Option Int}
theorem TF.sz (h : TF sd b l us f) : 2 ≤ l.length ∧ l.length ≤ 256 := by
  have h1 := Nat.pow_le_pow_right (show 0 < 2 by omega) h.b1
  have h2 := Nat.pow_le_pow_right (show 0 < 2 by omega) h.b0
  rw [h.len]
  simp at h1 h2
  omega
theorem has_fun {hm : ByteArray → Nat} (I : Inv hm l) {k : ByteArray} {v v' : Int} (h : Has l k v) (h' : Has l k v') : v = v' := by
  obtain ⟨i, i1, i2, i3, i4⟩ := h
  obtain ⟨j, j1, j2, j3, j4⟩ := h'
  obtain rfl := I.uniq i j i1 j1 i2 j2 (i3.trans j3.symm)
  exact i4.symm.trans j4
theorem TF.find (h : TF sd b l us f) (key : ByteArray) : (f key = none ∧ findT sd b l key = none) ∨ ∃ i v, f key = some v ∧ findT sd b l key = some i ∧ i < l.length ∧ (sl l i).f0 = true ∧ (sl l i).f1 = key ∧ (sl l i).f2 = v := by
  have hz := h.sz
  have hi := fun i => find_iff (l := l) (by omega) h.inv (key := key) (i := i)
  unfold findT
  cases e : findL l key (homeN sd b key) l.length 0 with
  | none =>
    left
    refine ⟨?_, rfl⟩
    cases e2 : f key with
    | none => rfl
    | some v =>
      obtain ⟨i, i1, i2, i3, i4⟩ := (h.has key v).2 e2
      have := (hi i).2 ⟨i1, i2, i3⟩
      rw [e] at this; cases this
  | some i =>
    right
    obtain ⟨i1, i2, i3⟩ := (hi i).1 e
    exact ⟨i, (sl l i).f2, (h.has key _).1 ⟨i, i1, i2, i3, rfl⟩, rfl, i1, i2, i3, rfl⟩
theorem TF.get (h : TF sd b l us f) (key : ByteArray) : getT sd b l key = match f key with | none => (0, false) | some v => (v, true) := by
  unfold getT
  rcases h.find key with ⟨h1, h2⟩ | ⟨i, v, h1, h2, h3, h4, h5, h6⟩
  · rw [h1, h2]
  · rw [h1, h2]
    show ((sl l i).f2, true) = (v, true)
    rw [h6]
theorem TF.put_bad (h : TF sd b l us f) (k : Nat) {key : ByteArray} (v : Int) (hk : key.size = 0 ∨ key.size > 33) : putT k sd b l us key v = some (l, us, 1) := by
  unfold putT; rw [if_pos hk]
theorem TF.put_old (h : TF sd b l us f) (k : Nat) {key : ByteArray} (v : Int) (hk : 1 ≤ key.size ∧ key.size ≤ 33) {v0 : Int} (hf : f key = some v0) : ∃ l', putT k sd b l us key v = some (l', us, 0) ∧ TF sd b l' us (upd f key (some v)) := by
  rcases h.find key with ⟨h1, h2⟩ | ⟨i, v1, h1, h2, h3, h4, h5, h6⟩
  · rw [hf] at h1; cases h1
  unfold putT
  rw [if_neg (by omega), h2]
  have hz := h.sz
  obtain ⟨x, hx⟩ : ∃ x : Sl, x = ⟨(sl l i).f0, (sl l i).f1, v, (sl l i).f3⟩ := ⟨_, rfl⟩
  refine ⟨l.set i x, by rw [hx]; rfl, ?_⟩
  have x0 : x.f0 = true := by rw [hx]; exact h4
  have x1 : x.f1 = (sl l i).f1 := by rw [hx]
  have x2 : x.f2 = v := by rw [hx]
  have x3 : x.f3 = (sl l i).f3 := by rw [hx]
  clear hx
  have same : ∀ j, (sl (l.set i x) j).f0 = (sl l j).f0 ∧ (sl (l.set i x) j).f1 = (sl l j).f1 ∧ (sl (l.set i x) j).f3 = (sl l j).f3 := by
    intro j
    by_cases e : i = j
    · subst e; rw [sl_self h3]; exact ⟨x0.trans h4.symm, x1, x3⟩
    · rw [sl_ne h3 _ e]; exact ⟨rfl, rfl, rfl⟩
  refine ⟨h.b0, h.b1, (List.length_set ..).trans h.len, ⟨?_, ?_, ?_, ?_⟩, ?_, ?_⟩
  · intro a ha hu
    rw [List.length_set] at ha ⊢
    rw [(same a).1] at hu
    rw [(same a).2.1, (same a).2.2]
    exact h.inv.pos a ha hu
  · intro a ha
    rw [List.length_set] at ha ⊢
    rw [(same _).1, (same _).2.2, (same a).1, (same a).2.2]
    exact h.inv.prev a ha
  · intro a c ha hc
    rw [List.length_set] at ha hc
    rw [(same a).1, (same c).1, (same a).2.1, (same c).2.1]
    exact h.inv.uniq a c ha hc
  · intro a ha hu
    rw [List.length_set] at ha
    have hu2 := hu
    rw [(same a).1] at hu2
    by_cases e : i = a
    · subst e; rw [h4] at hu2; cases hu2
    · rw [sl_ne h3 _ e]; exact h.inv.zero a ha hu2
  · have := cnt_set l i x h3
    simp only [bn, h4, x0, if_true] at this
    rw [h.us]; omega
  · intro q w
    rw [has_set h3 x0]
    unfold upd
    by_cases e : q = key
    · subst e
      rw [if_pos rfl]
      constructor
      · rintro (⟨_, r⟩ | ⟨j, j1, j2, j3, j4, _⟩)
        · rw [← r, x2]
        · exact absurd (h.inv.uniq j i j1 h3 j3 h4 (j4.trans h5.symm)) j2
      · intro r
        exact Or.inl ⟨x1.trans h5, by rw [x2]; exact Option.some.inj r⟩
    · rw [if_neg e, ← h.has q w]
      constructor
      · rintro (⟨r, _⟩ | ⟨j, j1, j2, j3, j4, j5⟩)
        · exact absurd (r.symm.trans (x1.trans h5)) e
        · exact ⟨j, j1, j3, j4, j5⟩
      · rintro ⟨j, j1, j3, j4, j5⟩
        exact Or.inr ⟨j, j1, fun z => by subst z; exact e (j4.symm.trans h5), j3, j4, j5⟩
theorem TF.put_full (h : TF sd b l us f) (k : Nat) {key : ByteArray} (v : Int) (hk : 1 ≤ key.size ∧ key.size ≤ 33) (hf : f key = none) (hu : us = (l.length : Int)) : putT k sd b l us key v = some (l, us, 4) := by
  rcases h.find key with ⟨h1, h2⟩ | ⟨i, v1, h1, h2, h3, h4, h5, h6⟩
  · unfold putT
    rw [if_neg (by omega), h2]
    exact if_pos hu
  · rw [hf] at h1; cases h1
theorem TF.put_new (h : TF sd b l us f) {k : Nat} (hk0 : 300 ≤ k) {key : ByteArray} (v : Int) (hk : 1 ≤ key.size ∧ key.size ≤ 33) (hf : f key = none) (hu : us ≠ (l.length : Int)) : ∃ l', putT k sd b l us key v = some (l', us + 1, 0) ∧ TF sd b l' (us + 1) (upd f key (some v)) := by
  rcases h.find key with ⟨h1, h2⟩ | ⟨i, v1, h1, h2, h3, h4, h5, h6⟩
  case inr => rw [hf] at h1; cases h1
  have hz := h.sz
  have hc := cnt_le l
  have hus := h.us
  obtain ⟨u, u1, u2⟩ := cnt_free l (by omega)
  have hh : homeN sd b key < l.length := by rw [h.len]; exact homeN_lt sd b key h.b0 (by have := h.b1; omega)
  obtain ⟨m, m1, m2⟩ : ∃ m, m < l.length ∧ (homeN sd b key + m) % l.length = u := by
    by_cases c : homeN sd b key ≤ u
    · exact ⟨u - homeN sd b key, by omega, by rw [show homeN sd b key + (u - homeN sd b key) = u by omega, Nat.mod_eq_of_lt u1]⟩
    · exact ⟨u + l.length - homeN sd b key, by omega, by rw [show homeN sd b key + (u + l.length - homeN sd b key) = u + l.length by omega, Nat.add_mod_right, Nat.mod_eq_of_lt u1]⟩
  obtain ⟨l', r1, r2, r3, r4, r5⟩ := putL_ok (homeN sd b) m l (homeN sd b key) u 0 ⟨true, key, v, 0⟩ hz.1 (by omega) hh u1 u2 m2 (by omega) h.inv rfl rfl (by rw [Nat.add_zero, Nat.mod_eq_of_lt hh]) (fun p _ _ z => absurd z (by omega))
    (fun j j1 j2 j3 => by
      have := (h.has key _).1 ⟨j, j1, j2, j3, rfl⟩
      rw [hf] at this; cases this) k (by omega)
  refine ⟨l', ?_, h.b0, h.b1, r3.trans h.len, r2, by rw [r4, hus]; omega, ?_⟩
  · unfold putT
    rw [if_neg (by omega), h2]
    show (if us = (l.length : Int) then _ else _) = _
    rw [if_neg hu, r1]
    show some (l', wrap64 (us + 1), 0) = _
    rw [wr (by omega) (by omega)]
  · intro q w
    rw [r5, h.has]
    unfold upd
    by_cases e : q = key
    · subst e
      rw [if_pos rfl, hf]
      constructor
      · rintro (r | ⟨_, r⟩)
        · cases r
        · exact congrArg some r
      · intro r; exact Or.inr ⟨rfl, Option.some.inj r⟩
    · rw [if_neg e]
      constructor
      · rintro (r | ⟨r, _⟩)
        · exact r
        · exact absurd r.symm e
      · exact Or.inl
theorem TF.del_no (h : TF sd b l us f) (k : Nat) {key : ByteArray} (hf : f key = none) : delT k sd b l us key = some (l, us, false) := by
  rcases h.find key with ⟨h1, h2⟩ | ⟨i, v1, h1, h2, h3, h4, h5, h6⟩
  · unfold delT; rw [h2]
  · rw [hf] at h1; cases h1
theorem sumD_le {hm : ByteArray → Nat} {N : Nat} : ∀ l : List Sl, (∀ i, i < l.length → (sl l i).f3.toNat ≤ N) → sumD l ≤ l.length * N
  | [], _ => by simp [sumD]
  | s :: l, h => by
    have h1 := sumD_le (hm := hm) l (fun i hi => by have := h (i + 1) (by simpa using hi); rwa [sl_cons] at this)
    have h2 := h 0 (by simp)
    rw [sl_zero] at h2
    simp only [sumD, List.length_cons, Nat.add_mul, Nat.one_mul]
    omega
theorem TF.del_yes (h : TF sd b l us f) {k : Nat} (hk0 : 70000 ≤ k) {key : ByteArray} {v0 : Int} (hf : f key = some v0) : ∃ l', delT k sd b l us key = some (l', us - 1, true) ∧ TF sd b l' (us - 1) (upd f key none) := by
  rcases h.find key with ⟨h1, h2⟩ | ⟨i, v1, h1, h2, h3, h4, h5, h6⟩
  · rw [hf] at h1; cases h1
  have hz := h.sz
  have hc := cnt_le l
  have hus := h.us
  have hd : ∀ j, j < l.length → (sl l j).f3.toNat ≤ 256 := fun j hj => by
    by_cases e : (sl l j).f0 = true
    · obtain ⟨d, d1, d2, _⟩ := h.inv.pos j hj e
      omega
    · rw [h.inv.zero j hj (by simpa using e)]; decide
  have hs := sumD_le (hm := homeN sd b) l hd
  have hs2 : l.length * 256 ≤ 256 * 256 := Nat.mul_le_mul_right _ hz.2
  have hi := sumD_at l i h3
  obtain ⟨m, j, r1, r2, r3, r4, r5, r6⟩ := delL_ok (homeN sd b) (sumD l - (sl l i).f3.toNat) l i hz.1 (by omega) (h.inv.hole h3 h4) (by omega) k (by omega)
  obtain ⟨q1, q2, q3⟩ := hole_shut (by omega) r2 (by exact r5)
  refine ⟨m.set j zeroS, ?_, h.b0, h.b1, (List.length_set ..).trans (r3.trans h.len), q1, by omega, ?_⟩
  · unfold delT
    rw [h2]
    show (delL k l i).map _ = _
    rw [r1]
    show some (m.set j zeroS, wrap64 (us - 1), true) = _
    rw [wr (by omega) (by omega)]
  · intro q w
    rw [q3, r6]
    unfold upd
    by_cases e : q = key
    · subst e
      rw [if_pos rfl]
      constructor
      · rintro ⟨a, a1, a2, a3, a4, _⟩
        exact absurd (h.inv.uniq a i a1 h3 a3 h4 (a4.trans h5.symm)) a2
      · intro r; cases r
    · rw [if_neg e, ← h.has q w]
      constructor
      · rintro ⟨a, a1, a2, a3, a4, a5⟩; exact ⟨a, a1, a3, a4, a5⟩
      · rintro ⟨a, a1, a3, a4, a5⟩
        exact ⟨a, a1, fun z => by subst z; exact e (a4.symm.trans h5), a3, a4, a5⟩
end
theorem TF.new (sd : Int) (b : Nat) (h0 : 1 ≤ b) (h1 : b ≤ 8) : TF sd b (List.replicate (2 ^ b) zeroS) 0 (fun _ => none) := by
  have hs : ∀ i, sl (List.replicate (2 ^ b) zeroS) i = zeroS := by
    intro i
    unfold sl rd_T52
    rw [Int.toNat_natCast, List.getD_eq_getElem?_getD, List.getElem?_replicate]
    split <;> rfl
  have z0 : zeroS.f0 = false := rfl
  have hc : ∀ n, cnt (List.replicate n zeroS) = 0 := by
    intro n
    induction n with
    | zero => rfl
    | succ n ih => rw [List.replicate_succ]; simp only [cnt, bn, z0]; simpa using ih
  refine ⟨h0, h1, List.length_replicate, ⟨?_, ?_, ?_, ?_⟩, by rw [hc]; rfl, ?_⟩
  · intro i _ hu; rw [hs, z0] at hu; cases hu
  · intro i _ hu; rw [hs, z0] at hu; cases hu
  · intro i j _ _ hu; rw [hs, z0] at hu; cases hu
  · intro i _ _; exact hs i
  · intro k v
    constructor
    · rintro ⟨i, _, hu, _⟩; rw [hs, z0] at hu; cases hu
    · intro h; cases h
end Go.Proofs.Ytonafabgbkohlaa.La


namespace Go.Proofs.Ytonafabgbkohlaa.La
open Go.RowKit Go.Proofs.YtonafabgbkohlaaW.PrintWords Go.Proofs.YtonafabgbkohlaaW.PrintLast Go.Proofs.YtonafabgbkohlaaW.PrintMore Go.Proofs.Ytonafabgbkohlaa.Q
set_option linter.unusedSimpArgs false
set_option linter.unusedVariables false
abbrev KF := ByteArray → Option Int
def TT (g gs : Nat) (sd : Int) (b : Nat) (us : Int) (f : KF) (W : World) : Prop := ∃ l, Tab g gs sd (b : Int) l us W ∧ TF sd b l us f
section
variable {g gs : Nat} {sd : Int} {b : Nat} {us : Int} {f : KF} {W W' : World}
theorem TT.below (h : TT g gs sd b us f W) (hb : Below W.heap.size W W') : TT g gs sd b us f W' := by obtain ⟨l, h1, h2⟩ := h; exact ⟨l, h1.below hb, h2⟩
theorem TT.drew (h : TT g gs sd b us f W) : TT g gs sd b us f W.drew := by obtain ⟨l, h1, h2⟩ := h; exact ⟨l, h1.drew, h2⟩
theorem TT.drewN (h : TT g gs sd b us f W) (n : Nat) : TT g gs sd b us f (W.drewN n) := by obtain ⟨l, h1, h2⟩ := h; exact ⟨l, h1.drewN n, h2⟩
theorem TT.alloc (h : TT g gs sd b us f W) (o : Obj) : TT g gs sd b us f (W.alloc o) := by obtain ⟨l, h1, h2⟩ := h; exact ⟨l, h1.alloc o, h2⟩
theorem TT.fr {S : Nat → Prop} (h : TT g gs sd b us f W) (hb : Fr S W W') (h1 : ¬ S g) (h2 : ¬ S gs) : TT g gs sd b us f W' := by
  obtain ⟨l, k1, k2⟩ := h
  exact ⟨l, ⟨hb.blk k1.hd h1, hb.blk k1.sl h2, k1.ne⟩, k2⟩
theorem TT.rng (h : TT g gs sd b us f W) : 0 ≤ us ∧ us ≤ 2 ^ b := by
  obtain ⟨l, h1, h2⟩ := h
  have := cnt_le l
  have e := h2.len
  rw [h2.us]
  refine ⟨by omega, ?_⟩
  have : ((cnt l : Nat) : Int) ≤ ((2 ^ b : Nat) : Int) := by omega
  simpa using this
end
/-- What Put does to a table as a function. -/
def putF (b : Nat) (f : KF) (us : Int) (key : ByteArray) (v : Int) : Int × Int × KF :=
  if key.size = 0 ∨ key.size > 33 then (1, us, f) else match f key with
  | some _ => (0, us, upd f key (some v))
  | none => if us = 2 ^ b then (4, us, f) else (0, us + 1, upd f key (some v))
def delF (f : KF) (us : Int) (key : ByteArray) : Bool × Int × KF := match f key with
  | none => (false, us, f)
  | some _ => (true, us - 1, upd f key none)
def getF (f : KF) (key : ByteArray) : Int × Bool := match f key with
  | none => (0, false)
  | some v => (v, true)
theorem tt_new (sd : Int) (b : Nat) (w : World) (h0 : 1 ≤ b) (h1 : b ≤ 8) : Calls Try.prog 12 #[.int .u64 sd, .int .i64 (b : Int)] w fun e w' => e = .returned (.tuple #[.pointer (some ⟨w.heap.size + 1, 0, none⟩), .int .i64 0]) ∧ TT (w.heap.size + 1) w.heap.size sd b 0 (fun _ => none) w' ∧ Below w.heap.size w w' := by
  refine (robin_New.calls sd b w h0 h1).mono ?_
  rintro e w' ⟨rfl, ht, hb⟩
  exact ⟨rfl, ⟨_, ht, TF.new sd b h0 h1⟩, hb⟩
theorem tt_put {g gs : Nat} {sd : Int} {b : Nat} {us : Int} {f : KF} {w : World} (h : TT g gs sd b us f w) (key : ByteArray) (v : Int) (hk : key.size ≤ 4611686018427387904) {e0 us' : Int} {f' : KF} (hp : putF b f us key v = (e0, us', f')) :
    Calls Try.prog 21 #[.pointer (some ⟨g, 0, none⟩), .string key, .int .i64 v] w fun e w' => e = .returned (.int .i64 e0) ∧ TT g gs sd b us' f' w' ∧ Fr (fun q => q = g ∨ q = gs) w w' := by
  obtain ⟨l, ht, hf⟩ := h
  have key2 : ∃ l', putT 300 sd b l us key v = some (l', us', e0) ∧ TF sd b l' us' f' := by
    unfold putF at hp
    by_cases hb : key.size = 0 ∨ key.size > 33
    · rw [if_pos hb] at hp; cases hp
      exact ⟨l, hf.put_bad 300 v hb, hf⟩
    · rw [if_neg hb] at hp
      cases e : f key with
      | some v0 =>
        rw [e] at hp; cases hp
        exact hf.put_old 300 v (by omega) e
      | none =>
        rw [e] at hp
        have hl : (l.length : Int) = 2 ^ b := by rw [hf.len]; simp
        by_cases hu : us = 2 ^ b
        · simp only [if_pos hu] at hp; cases hp
          exact ⟨l, hf.put_full 300 v (by omega) e (by omega), hf⟩
        · simp only [if_neg hu] at hp; cases hp
          exact hf.put_new (Nat.le_refl _) v (by omega) e (by omega)
  obtain ⟨l', h1, h2⟩ := key2
  refine (robin_Table_Put.calls 300 g gs sd us b l key v l' us' e0 w ht hf.len hf.b0 hf.b1 hk h1).mono ?_
  rintro e w' ⟨rfl, k1, _, k3⟩
  exact ⟨rfl, ⟨l', k1, h2⟩, k3⟩
theorem tt_del {g gs : Nat} {sd : Int} {b : Nat} {us : Int} {f : KF} {w : World} (h : TT g gs sd b us f w) (key : ByteArray) (hk : key.size ≤ 4611686018427387904) {e0 : Bool} {us' : Int} {f' : KF} (hp : delF f us key = (e0, us', f')) :
    Calls Try.prog 22 #[.pointer (some ⟨g, 0, none⟩), .string key] w fun e w' => e = .returned (.bool e0) ∧ TT g gs sd b us' f' w' ∧ Fr (fun q => q = g ∨ q = gs) w w' := by
  obtain ⟨l, ht, hf⟩ := h
  have key2 : ∃ l', delT 70000 sd b l us key = some (l', us', e0) ∧ TF sd b l' us' f' := by
    unfold delF at hp
    cases e : f key with
    | none =>
      rw [e] at hp; cases hp
      exact ⟨l, hf.del_no 70000 e, hf⟩
    | some v0 =>
      rw [e] at hp; cases hp
      exact hf.del_yes (Nat.le_refl _) e
  obtain ⟨l', h1, h2⟩ := key2
  refine (robin_Table_Delete.calls 70000 g gs sd us b l key l' us' e0 w ht hf.len hf.b0 hf.b1 hk h1).mono ?_
  rintro e w' ⟨rfl, k1, _, k3⟩
  exact ⟨rfl, ⟨l', k1, h2⟩, k3⟩
theorem tt_get {g gs : Nat} {sd : Int} {b : Nat} {us : Int} {f : KF} {w : World} (h : TT g gs sd b us f w) (key : ByteArray) (hk : key.size ≤ 4611686018427387904) {v : Int} {is : Bool} (hp : getF f key = (v, is)) :
    Calls Try.prog 25 #[.pointer (some ⟨g, 0, none⟩), .string key] w fun e w' => e = .returned (.tuple #[.int .i64 v, .bool is]) ∧ TT g gs sd b us f w' ∧ Below w.heap.size w w' := by
  obtain ⟨l, ht, hf⟩ := h
  have e : getT sd b l key = (v, is) := (hf.get key).trans hp
  have G := robin_Table_Get.calls g gs sd us b l key w ht hf.len hf.b0 hf.b1 hk
  rw [e] at G
  refine G.mono ?_
  rintro e w' ⟨rfl, hb⟩
  exact ⟨rfl, ⟨l, ht.below hb, hf⟩, hb⟩
theorem tt_len {g gs : Nat} {sd : Int} {b : Nat} {us : Int} {f : KF} {w : World} (h : TT g gs sd b us f w) :
    Calls Try.prog 15 #[.pointer (some ⟨g, 0, none⟩)] w fun e w' => e = .returned (.int .i64 us) ∧ w' = w := by
  obtain ⟨l, ht, hf⟩ := h
  exact robin_Table_Len.calls g gs sd b us l w ht
theorem ba_bne {a b : ByteArray} (h : a ≠ b) : (a == b) = false := by
  cases hh : (a == b) with
  | false => rfl
  | true =>
    exfalso; apply h
    have : (a.data == b.data) = true := hh
    cases a; cases b
    simp at this
    rw [this]
theorem ba_bne2 {a b : ByteArray} (h : a ≠ b) : (a != b) = true := by unfold bne; rw [ba_bne h]; rfl
/-- Only keys that may be are in it. -/
def KeyOk (f : KF) : Prop := ∀ q v, f q = some v → 1 ≤ q.size ∧ q.size ≤ 33
theorem KeyOk.none : KeyOk (fun _ => none) := fun q v h => nomatch h
theorem KeyOk.put {f f' : KF} {b : Nat} {us us' e : Int} {key : ByteArray} {v : Int} (h : KeyOk f) (hp : putF b f us key v = (e, us', f')) : KeyOk f' := by
  unfold putF at hp
  by_cases hb : key.size = 0 ∨ key.size > 33
  · rw [if_pos hb] at hp; cases hp; exact h
  · rw [if_neg hb] at hp
    have hu : KeyOk (upd f key (some v)) := fun q w hq => by
      unfold upd at hq
      by_cases e : q = key
      · subst e; omega
      · rw [if_neg e] at hq; exact h q w hq
    cases e2 : f key with
    | some _ => rw [e2] at hp; cases hp; exact hu
    | none =>
      rw [e2] at hp
      by_cases hf : us = 2 ^ b
      · simp only [if_pos hf] at hp; cases hp; exact h
      · simp only [if_neg hf] at hp; cases hp; exact hu
theorem KeyOk.del {f f' : KF} {us us' : Int} {e : Bool} {key : ByteArray} (h : KeyOk f) (hp : delF f us key = (e, us', f')) : KeyOk f' := by
  unfold delF at hp
  cases e2 : f key with
  | none => rw [e2] at hp; cases hp; exact h
  | some _ =>
    rw [e2] at hp; cases hp
    intro q w hq
    unfold upd at hq
    by_cases e : q = key
    · rw [if_pos e] at hq; cases hq
    · rw [if_neg e] at hq; exact h q w hq
/-- A Put that fails changes nothing; the key is not there. -/
theorem putF_no {f f' : KF} {b : Nat} {us us' e : Int} {key : ByteArray} {v : Int} (h : KeyOk f) (hp : putF b f us key v = (e, us', f')) (he : e ≠ 0) : f' = f ∧ us' = us ∧ f key = none := by
  unfold putF at hp
  by_cases hb : key.size = 0 ∨ key.size > 33
  · rw [if_pos hb] at hp; cases hp
    refine ⟨rfl, rfl, ?_⟩
    cases e2 : f key with
    | none => rfl
    | some w => have := h key w e2; omega
  · rw [if_neg hb] at hp
    cases e2 : f key with
    | some _ => rw [e2] at hp; cases hp; exact absurd rfl he
    | none =>
      rw [e2] at hp
      by_cases hf : us = 2 ^ b
      · simp only [if_pos hf] at hp; cases hp; exact ⟨rfl, rfl, rfl⟩
      · simp only [if_neg hf] at hp; cases hp; exact absurd rfl he
theorem putF_yes {f f' : KF} {b : Nat} {us us' : Int} {key : ByteArray} {v : Int} (hp : putF b f us key v = (0, us', f')) : f' = upd f key (some v) ∧ us' = us + (if (getF f key).2 = true then 0 else 1) := by
  unfold putF at hp
  unfold getF
  by_cases hb : key.size = 0 ∨ key.size > 33
  · rw [if_pos hb] at hp; cases hp
  · rw [if_neg hb] at hp
    cases e2 : f key with
    | some _ => rw [e2] at hp; cases hp; exact ⟨rfl, by simp⟩
    | none =>
      rw [e2] at hp
      by_cases hf : us = 2 ^ b
      · simp only [if_pos hf] at hp; cases hp
      · simp only [if_neg hf] at hp; cases hp; exact ⟨rfl, by simp⟩
theorem getF_self (f : KF) (key : ByteArray) (v : Int) : getF (upd f key (some v)) key = (v, true) := by unfold getF upd; simp
theorem getF_gone (f : KF) (key : ByteArray) : getF (upd f key none) key = (0, false) := by unfold getF upd; simp
theorem getF_ne (f : KF) {key q : ByteArray} (o : Option Int) (h : q ≠ key) : getF (upd f key o) q = getF f q := by unfold getF upd; rw [if_neg h]
end Go.Proofs.Ytonafabgbkohlaa.La


namespace Go.Proofs.Ytonafabgbkohlaa.La
open Go.RowKit Go.Proofs.Ytonafabgbkohlaa.Zip Go.Proofs.YtonafabgbkohlaaW.PrintWords Go.Proofs.YtonafabgbkohlaaW.PrintLast Go.Proofs.YtonafabgbkohlaaW.PrintMore Go.Proofs.Ytonafabgbkohlaa.Q
set_option linter.unusedSimpArgs false
set_option linter.unusedVariables false
abbrev Pr := S70
abbrev kP := k70
/-- A map: its block, its row. -/
def Mp (gm : Nat) (most : Int) (L : List Pr) (W : World) : Prop := ∃ v, W.heap[gm]? = some (.cells #[v, .int .i64 most] 39 (0, 0)) ∧ Kd.R kP 70 W (gm + 1) (fun k => gm < k) v L
theorem Mp.below {gm : Nat} {most : Int} {L : List Pr} {W W' : World} (h : Mp gm most L W) (hb : Below W.heap.size W W') : Mp gm most L W' := by
  obtain ⟨v, h1, h2⟩ := h; exact ⟨v, blk_below h1 hb, Kd.R_below h2 hb⟩
theorem Mp.drew {gm : Nat} {most : Int} {L : List Pr} {W : World} (h : Mp gm most L W) : Mp gm most L W.drew := h.below (below_drew (Below.refl _ _))
theorem Mp.fr {gm : Nat} {most : Int} {L : List Pr} {W W' : World} {S : Nat → Prop} (h : Mp gm most L W) (hb : Fr S W W') (hS : ∀ q, S q → q < gm) : Mp gm most L W' := by
  obtain ⟨v, h1, h2⟩ := h
  exact ⟨v, hb.blk h1 (fun q => by have := hS _ q; omega), Kd.R_step h2 (fun k hk hlt => hb.block k hlt (fun q => by have := hS _ q; omega))⟩
set_option maxHeartbeats 2000000 in
theorem map_new_no (bi : Int) (w : World) (h : bi < 1 ∨ 8 < bi) : Calls Try.prog 13 #[.int .i64 bi] w fun e w' => e = .returned (.tuple #[.pointer none, .int .i64 1]) ∧ w' = w := by
  by_cases h1 : bi < 1
  · have d1 : decide (bi < 1) = true := decide_eq_true h1
    go_enter Try.func13, Try.ntmps13
    go_wp2
    go_ret2
    exact ⟨rfl, rfl⟩
  · have d1 : decide (bi < 1) = false := decide_eq_false h1
    have d2 : decide (8 < bi) = true := decide_eq_true (by omega)
    go_enter Try.func13, Try.ntmps13
    go_wp2
    go_ret2
    exact ⟨rfl, rfl⟩
set_option maxRecDepth 100000 in
set_option maxHeartbeats 2000000 in
theorem map_new (b : Nat) (w : World) (h0 : 1 ≤ b) (h1 : b ≤ 8) : Calls Try.prog 13 #[.int .i64 (b : Int)] w fun e w' => e = .returned (.tuple #[.pointer (some ⟨w.heap.size, 0, none⟩), .int .i64 0]) ∧ Mp w.heap.size ((2 ^ b : Nat) : Int) [] w' ∧ Below w.heap.size w w' := by
  have d1 : decide ((b : Int) < 1) = false := decide_eq_false (by omega)
  have d2 : decide (8 < (b : Int)) = false := decide_eq_false (by omega)
  have d2n : decide (8 < b) = false := decide_eq_false (by omega)
  go_enter Try.func13, Try.ntmps13
  go_wp2
  go_loopw [4, 5] (fun v4 v5 w' => ∃ j : Nat, j ≤ b ∧ v4 = .int .i64 ((2 ^ j : Nat) : Int) ∧ v5 = .int .i64 j ∧ w' = w) (fun _ v5 _ => b - (intOf v5).toNat)
  case atStart => exact ⟨0, Nat.zero_le _, rfl, rfl, rfl⟩
  case round =>
    obtain ⟨j, hj, rfl, rfl, rfl⟩ := hrel
    obtain ⟨n, hn⟩ : ∃ n, 2 ^ j = n := ⟨_, rfl⟩
    have hp : n ≤ 256 := by
      have := Nat.pow_le_pow_right (show 0 < 2 by omega) (show j ≤ 8 by omega)
      omega
    by_cases hlt : j < b
    · have d3 : decide (j < b) = true := decide_eq_true hlt
      have hn2 : 2 ^ (j + 1) = 2 * n := by rw [← hn, Nat.pow_succ]; omega
      have HN2 := Aside0.mk hn2
      have HLT := Aside0.mk hlt
      have DW := Aside0.mk (show wrap64 ((j : Int) + 1) = ((j + 1 : Nat) : Int) by unfold wrap64; omega)
      have DM := Aside0.mk (show wrap64 (2 * (n : Int)) = ((2 * n : Nat) : Int) by unfold wrap64; omega)
      rw [hn]
      clear hn hn2 hlt
      go_wp2
      go_roundw
      case rel => exact ⟨j + 1, by have := HLT.out; omega, by rw [HN2.out]; simp, rfl, trivial⟩
      case measure => simp only [intOf]; have := HLT.out; omega
    · obtain rfl : j = b := by omega
      have d3 : decide (j < j) = false := decide_eq_false hlt
      have HN := Aside0.mk hn
      rw [hn]
      clear hn hlt
      go_wp2
      go_ret2
      exact ⟨rfl, ⟨.slice none 0 0, by rw [HN.out]; exact blk_new wr _, Kd.R_nil _ _ _ _ _⟩, (Below.refl _ _).alloc (Nat.le_refl _) _⟩
/-- A key's place in rising pairs. -/
structure PlaceP (L : List Pr) (key : ByteArray) (i : Nat) (is : Bool) : Prop where
  le : i ≤ L.length
  lo : ∀ j, j < i → Op.bytesLess (rd_T70 L (j : Int)).f0.toList key.toList = true
  hi : i < L.length → Op.bytesLess (rd_T70 L (i : Int)).f0.toList key.toList = false
  iff : is = true ↔ (i < L.length ∧ (rd_T70 L (i : Int)).f0 = key)
set_option maxRecDepth 100000 in
set_option maxHeartbeats 2000000 in
theorem map_place {gm : Nat} {most : Int} {L : List Pr} {w : World} (h : Mp gm most L w) (key : ByteArray) {i : Nat} {is : Bool} (hp : PlaceP L key i is) (hL : L.length ≤ 1000000) :
    Calls Try.prog 37 #[.pointer (some ⟨gm, 0, none⟩), .string key] w fun e w' => e = .returned (.tuple #[.int .i64 (i : Int), .bool is]) ∧ Below w.heap.size w w' := by
  obtain ⟨v, hv, hR⟩ := h
  obtain ⟨A, c, rfl⟩ := Kd.R_slice hR
  have HC := Aside0.mk (Kd.R_reads' hR).2.2
  have c0 := (blk_cell hv 0).trans rfl
  have HLn := Aside0.mk hL
  have HP := Aside0.mk hp
  clear hv hR hL hp
  go_enter Try.func37, Try.ntmps37
  go_wp2
  go_loopw [6] (fun v6 w' => ∃ j : Nat, v6 = .int .i64 j ∧ Aside0 (j ≤ i) ∧ w' = w) (fun v6 _ => i - (intOf v6).toNat)
  case atStart => exact ⟨0, rfl, ⟨Nat.zero_le _⟩, rfl⟩
  case round =>
    obtain ⟨j, rfl, HJ, rfl⟩ := hrel
    by_cases hj : j < i
    · have hjl : j < L.length := by have := HP.out.le; omega
      have d2 : decide (j < L.length) = true := decide_eq_true hjl
      obtain ⟨ad, ea, x0, x1⟩ := at_T70 HC.out (j : Int) (by omega) (by omega)
      subst ea
      simp only [Int.toNat_natCast] at x0 x1
      have hl := HP.out.lo j hj
      have DW := Aside0.mk (show wrap64 ((j : Int) + 1) = ((j + 1 : Nat) : Int) by have := HLn.out; unfold wrap64; omega)
      have HJ2 := Aside0.mk hj
      clear hj
      go_wp2
      go_roundw
      case rel => exact ⟨j + 1, by first | rfl | rw [DW.out], ⟨by have := HJ2.out; omega⟩, by first | trivial | rfl⟩
      case measure => (try rw [DW.out]); simp only [intOf]; have := HJ2.out; omega
    · obtain rfl : j = i := by have := HJ.out; omega
      clear hj
      have c0d : wr.drew.cell? ⟨gm, 0, none⟩ = some (.slice A L.length c) := c0
      by_cases hjl : j < L.length
      · have d2 : decide (j < L.length) = true := decide_eq_true hjl
        obtain ⟨ad, ea, x0, x1⟩ := at_T70 HC.out (j : Int) (by omega) (by omega)
        subst ea
        simp only [Int.toNat_natCast] at x0 x1
        have x0d : wr.drew.cell? (ad.add (j * 2)) = some (.string (rd_T70 L (j : Int)).f0) := x0
        have hl := HP.out.hi hjl
        have se := str_eq (rd_T70 L (j : Int)).f0 key
        have q0 := eq_true (show (0 : Int) ≤ (j : Int) by omega)
        have q1 := eq_true (show (j : Int) < (L.length : Int) by omega)
        have q2 := eq_true hjl
        by_cases hk : (rd_T70 L (j : Int)).f0 = key
        · rw [decide_eq_true hk] at se
          obtain rfl : is = true := HP.out.iff.2 ⟨hjl, hk⟩
          clear hk
          go_upto_region 4 with (fail)
          go_region
          all_goals
            go_wp2
            go_ret2
            exact ⟨rfl, by first | exact pw_below_drewN (Below.refl _ _) _ | exact below_drew (Below.refl _ _)⟩
        · rw [decide_eq_false hk] at se
          obtain rfl : is = false := by cases e : is; rfl; exact absurd (HP.out.iff.1 e).2 hk
          clear hk
          go_upto_region 4 with (fail)
          go_region
          all_goals
            go_wp2
            go_ret2
            exact ⟨rfl, by first | exact pw_below_drewN (Below.refl _ _) _ | exact below_drew (Below.refl _ _)⟩
      · have d2 : decide (j < L.length) = false := decide_eq_false hjl
        obtain rfl : is = false := by cases e : is; rfl; exact absurd (HP.out.iff.1 e).1 hjl
        go_upto_region 4 with (fail)
        go_region
        all_goals
          go_wp2
          go_ret2
          exact ⟨rfl, by first | exact pw_below_drewN (Below.refl _ _) _ | exact below_drew (Below.refl _ _)⟩
theorem may_yes {key : ByteArray} (h : 1 ≤ key.size ∧ key.size ≤ 33) : sandglassref05_May.f key = some true := by
  unfold sandglassref05_May.f; rw [if_pos (by omega), decide_eq_true (by omega)]
theorem may_no {key : ByteArray} (h : key.size = 0 ∨ key.size > 33) : sandglassref05_May.f key = some false := by
  unfold sandglassref05_May.f
  by_cases h1 : (key.size : Int) ≥ 1
  · rw [if_pos h1, decide_eq_false (by omega)]
  · rw [if_neg h1]
theorem Mp.cells {gm : Nat} {most : Int} {L : List Pr} {w : World} (h : Mp gm most L w) : ∃ A c, w.cell? ⟨gm, 0, none⟩ = some (.slice A L.length c) ∧ w.cell? ⟨gm, 1, none⟩ = some (.int .i64 most) ∧ Kd.C kP w A L.length L ∧ L.length ≤ c := by
  obtain ⟨v, hv, hR⟩ := h
  obtain ⟨A, c, rfl⟩ := Kd.R_slice hR
  exact ⟨A, c, (blk_cell hv 0).trans rfl, (blk_cell hv 1).trans rfl, (Kd.R_reads' hR).2.2, (Kd.R_reads' hR).2.1⟩
set_option maxRecDepth 100000 in
set_option maxHeartbeats 2000000 in
theorem map_get {gm : Nat} {most : Int} {L : List Pr} {w : World} (h : Mp gm most L w) (key : ByteArray) {i : Nat} {is : Bool} (hp : PlaceP L key i is) (hL : L.length ≤ 1000000) :
    Calls Try.prog 27 #[.pointer (some ⟨gm, 0, none⟩), .string key] w fun e w' => e = .returned (.tuple #[.int .i64 (if is = true then (rd_T70 L (i : Int)).f1 else 0), .bool is]) ∧ Below w.heap.size w w' := by
  have HH := Aside0.mk h
  have HP := Aside0.mk hp
  have HL := Aside0.mk hL
  clear h hp hL
  go_enter Try.func27, Try.ntmps27
  go_upto_region 2 with (go_at_call 37; refine (map_place HH.out key HP.out HL.out).mono ?_; rintro e w1 ⟨rfl, hb⟩; have HB := Aside0.mk hb; replace HH := Aside0.mk (HH.out.below hb); clear hb)
  cases is with
  | false =>
    go_wp2
    go_ret2
    exact ⟨rfl, HB.out⟩
  | true =>
    obtain ⟨A, c, c0, c1, hC, hlc⟩ := HH.out.cells
    have hi := (HP.out.iff.1 rfl).1
    obtain ⟨ad, ea, x0, x1⟩ := at_T70 hC (i : Int) (by omega) (by omega)
    subst ea
    simp only [Int.toNat_natCast] at x0 x1
    clear hC
    go_wp2
    go_ret2
    exact ⟨rfl, HB.out⟩
theorem R_empty {g base : Nat} {W : World} {ok : Nat → Prop} (hg : W.heap[g]? = some (.cells #[] 70 (0, 0))) (hb : base ≤ g) (ho : ok g) : Kd.R kP 70 W base ok (.slice (some ⟨g, 0, none⟩) 0 0) [] := by
  refine ⟨fun k hk => ?_, [], ⟨rfl, Or.inr ⟨g, 0, #[], rfl, hb, hg, Nat.le_refl _, Nat.zero_le _, rfl, rfl⟩⟩, Reps.none _ _⟩
  have : g = k := by simpa [Value.ownBlock] using hk
  subst this
  exact ho
set_option maxRecDepth 100000 in
set_option maxHeartbeats 2000000 in
theorem map_put_new {gm : Nat} {most : Int} {L : List Pr} {w : World} (h : Mp gm most L w) (key : ByteArray) (val : Int) (hk : 1 ≤ key.size ∧ key.size ≤ 33) {i : Nat} (hp : PlaceP L key i false) (hL : L.length ≤ 1000000) (hm : (L.length : Int) < most) :
    Calls Try.prog 26 #[.pointer (some ⟨gm, 0, none⟩), .string key, .int .i64 val] w fun e w' => e = .returned (.int .i64 0) ∧ Mp gm most (L.take i ++ [⟨key, val⟩] ++ L.drop i) w' ∧ Below gm w w' := by
  have HH := Aside0.mk h
  have HP := Aside0.mk hp
  have HL := Aside0.mk hL
  have HM := Aside0.mk (may_yes hk)
  have HGM := Aside0.mk (show gm < w.heap.size by obtain ⟨v_, hv_, _⟩ := h; exact blk_lt hv_)
  have inf : (Try.prog.info? 70).map (fun i => (i.zero, i.size, i.bytes)) = some (some (.agg #[(.string ⟨#[]⟩), (.int .i64 0)]), kP.sz, 24) := by kernel_rfl
  have dm : decide (most ≤ (L.length : Int)) = false := decide_eq_false (by omega)
  obtain ⟨L7, hL7⟩ : ∃ L7, L.take i ++ [(⟨key, val⟩ : Pr)] ++ L.drop i = L7 := ⟨_, rfl⟩
  rw [hL7]
  have HL7 := Aside0.mk hL7
  clear h hp hL hk hL7
  go_enter Try.func26, Try.ntmps26
  go_upto_region 3 with (go_at_call 36; refine (sandglassref05_May.calls key _ _ HM.out).mono ?_; rintro e w1 ⟨rfl, hd⟩; have HB := Aside0.mk hd.below; replace HH := Aside0.mk (HH.out.below hd.below); clear hd)
  go_upto_region 4 with (go_at_call 37; refine (map_place HH.out key HP.out HL.out).mono ?_; rintro e w2 ⟨rfl, hb⟩; replace HB := Aside0.mk (HB.out.trans (hb.mono HB.out.size)); replace HH := Aside0.mk (HH.out.below hb); clear hb)
  obtain ⟨A, c, c0, c1, hC, hlc⟩ := HH.out.cells
  have c0d : w2.drew.cell? ⟨gm, 0, none⟩ = some (.slice A L.length c) := c0
  have c1d : w2.drew.cell? ⟨gm, 1, none⟩ = some (.int .i64 most) := c1
  have HC := Aside0.mk hC
  have q0 := eq_true (show (0 : Int) ≤ (i : Int) by omega)
  have hic : i ≤ c := by have := HP.out.le; omega
  have q1 := eq_true (show (i : Int) ≤ (c : Int) by omega)
  have q2 : decide (i ≤ c) = true := decide_eq_true hic
  have HLC := Aside0.mk hlc
  clear hC hlc
  go_upto_region 7 with (fail)
  go_region
  all_goals
    go_upto_region 9 with (fail)
    have c0a : (w2.alloc (.cells #[] 70)).cell? ⟨gm, 0, none⟩ = some (.slice A L.length c) := pw_cell_below (below_alloc (Below.refl _ _) _) c0
    have HC2 := Aside0.mk (show Kd.C kP (w2.alloc (.cells #[] 70)) A i (L.take i) from by have := Kd.C_take (Kd.C_below HC.out (below_alloc (Below.refl _ _) (.cells #[] 70))) HP.out.le; rwa [List.length_take, Nat.min_eq_left HP.out.le] at this)
    have HE := Aside0.mk (R_empty (ok := fun k => w2.heap.size ≤ k) (blk_new w2 (.cells #[] 70)) (Nat.le_refl _) (Nat.le_refl _))
    have HBa := Aside0.mk (below_alloc (Below.refl w2.heap.size w2) (.cells #[] 70))
    have HTL := Aside0.mk (show (L.take i).length ≤ 1000000 by rw [List.length_take]; have := HL.out; omega)
    go_upto_region 10 with (((with_reducible refine gate_builtin (b := .append) (xs := #[.tmp 38, .tmp 44]) rfl ?_); at_builtin; refine Kd.R_append_rows kP (w0 := w2) w2.heap.size rfl (.tmp 38) (.tmp 44) 37 70 (.agg #[(.string ⟨#[]⟩), (.int .i64 0)]) 24 rfl Try.underlying37 inf rfl (by decide) (by omega) (.slice (some ⟨w2.heap.size, 0, none⟩) 0 0) [] (L.take i) A i c (fun k_ => w2.heap.size ≤ k_) (fun _ => False) rfl rfl HE.out HC2.out (fun _ _ h => h) (fun _ h => h.elim) (fun _ hk => Nat.le_trans HBa.out.size hk) (by first | exact HBa.out | exact below_drew HBa.out) HBa.out.size (by have := HL.out; have := HP.out.le; show (0 + i) * 24 ≤ 140737488355328; omega) ?_; intro v5 w5 ho hb5 hg5 hat5; have HO5 := Aside0.mk ho; have HB5 := Aside0.mk hb5; clear ho hb5 hg5 hat5 c0a))
    clear HE HC2 HBa
    go_upto_region 11 with (((with_reducible refine gate_builtin (b := .append) (xs := #[.tmp 46, .tmp 50]) rfl ?_); at_builtin; refine Kd.R_append kP (w0 := w2) w2.heap.size rfl (.tmp 46) (.tmp 50) 37 70 (.agg #[(.string ⟨#[]⟩), (.int .i64 0)]) 24 rfl Try.underlying37 inf rfl (by decide) (by omega) v5 (L.take i) (⟨key, val⟩ : Pr) [.string key, .int .i64 val] (fun k_ => w2.heap.size ≤ k_) (fun _ => False) rfl rfl (k70_mkM _ _ _ _) (fun _ h => h.elim) (fun _ hk => Nat.le_trans HB5.out.size hk) HO5.out HB5.out HB5.out.size (by have := HTL.out; omega) ?_; intro v6 w6 ho hb6 hg6 hat6; have HO6 := Aside0.mk ho; have HB6 := Aside0.mk hb6; clear ho hb6 hg6 hat6))
    have c06 : w6.cell? ⟨gm, 0, none⟩ = some (.slice A L.length c) := pw_cell_below HB6.out c0
    have c06d : w6.drew.cell? ⟨gm, 0, none⟩ = some (.slice A L.length c) := c06
    have q3 : decide (i ≤ L.length) = true := decide_eq_true HP.out.le
    have z6 : w6.frozen? ⟨gm, 0, none⟩ = false := by obtain ⟨v_, hv_, _⟩ := HH.out; exact blk_frozen (blk_below hv_ HB6.out) 0
    have HC6 := Aside0.mk (Kd.C_drop (Kd.C_below HC.out HB6.out) HP.out.le HLC.out)
    have q4 := eq_true HP.out.le
    by_cases hci : c = i
    · subst hci
      go_upto_region 12 with (((with_reducible refine gate_builtin (b := .append) (xs := #[.tmp 53, .tmp 59]) rfl ?_); at_builtin; refine Kd.R_append_rows kP (w0 := w2) w2.heap.size rfl (.tmp 53) (.tmp 59) 37 70 (.agg #[(.string ⟨#[]⟩), (.int .i64 0)]) 24 rfl Try.underlying37 inf rfl (by decide) (by omega) v6 _ (L.drop c) _ _ _ (fun k_ => w2.heap.size ≤ k_) (fun _ => False) rfl rfl HO6.out (by have := HC6.out; rw [if_pos rfl, List.length_drop] at this; exact this) (fun _ _ h => h) (fun _ h => h.elim) (fun _ hk => Nat.le_trans HB6.out.size hk) (by first | exact HB6.out | exact below_drew HB6.out) HB6.out.size (by have := HL.out; have := HTL.out; simp; omega) ?_; intro v7 w7 ho hb7 hg7 hat7; replace ho : Kd.R kP 70 w7 w2.heap.size (fun k_ => w2.heap.size ≤ k_) v7 L7 := (by rw [← HL7.out]; exact ho); obtain ⟨A7, c7, rfl⟩ := Kd.R_slice ho; have HO7 := Aside0.mk ho; have HB7 := Aside0.mk hb7; have c07 : w7.cell? ⟨gm, 0, none⟩ = _ := pw_cell_below hb7 c0; have z7 : w7.frozen? ⟨gm, 0, none⟩ = false := (by obtain ⟨v_, hv_, _⟩ := HH.out; exact blk_frozen (blk_below hv_ hb7) 0); clear ho hb7 hg7 hat7))
      go_wp2
      go_ret
      have hgm : gm < w2.heap.size := by obtain ⟨v_, hv_, _⟩ := HH.out; exact blk_lt hv_
      refine ⟨rfl, ⟨.slice A7 L7.length c7, ?_, ?_⟩, ?_⟩
      · obtain ⟨v_, hv_, _⟩ := HH.out
        exact blk_put (blk_below hv_ HB7.out) 0 _ rfl
      · have := Kd.R_far (p := ⟨gm, 0, none⟩) HO7.out (fun k hk => by have : w2.heap.size ≤ k := hk; show k ≠ gm; omega) (.slice A7 L7.length c7)
        exact Kd.R_mono (Kd.R_lower this (by omega)) (fun k hk => by have h9 : w2.heap.size ≤ k := hk; show gm < k; omega)
      · have hgw : gm ≤ w.heap.size := Nat.le_of_lt HGM.out
        exact ((HB.out.mono hgw).trans (HB7.out.mono (by omega))).setCell (Nat.le_refl gm) _
    · have hcn : (c = i) = False := eq_false hci
      go_upto_region 12 with (((with_reducible refine gate_builtin (b := .append) (xs := #[.tmp 53, .tmp 59]) rfl ?_); at_builtin; refine Kd.R_append_rows kP (w0 := w2) w2.heap.size rfl (.tmp 53) (.tmp 59) 37 70 (.agg #[(.string ⟨#[]⟩), (.int .i64 0)]) 24 rfl Try.underlying37 inf rfl (by decide) (by omega) v6 _ (L.drop i) _ _ _ (fun k_ => w2.heap.size ≤ k_) (fun _ => False) rfl rfl HO6.out (by have := HC6.out; rw [if_neg hci, List.length_drop] at this; exact this) (fun _ _ h => h) (fun _ h => h.elim) (fun _ hk => Nat.le_trans HB6.out.size hk) (by first | exact HB6.out | exact below_drew HB6.out) HB6.out.size (by have := HL.out; have := HTL.out; simp; omega) ?_; intro v7 w7 ho hb7 hg7 hat7; replace ho : Kd.R kP 70 w7 w2.heap.size (fun k_ => w2.heap.size ≤ k_) v7 L7 := (by rw [← HL7.out]; exact ho); obtain ⟨A7, c7, rfl⟩ := Kd.R_slice ho; have HO7 := Aside0.mk ho; have HB7 := Aside0.mk hb7; have c07 : w7.cell? ⟨gm, 0, none⟩ = _ := pw_cell_below hb7 c0; have z7 : w7.frozen? ⟨gm, 0, none⟩ = false := (by obtain ⟨v_, hv_, _⟩ := HH.out; exact blk_frozen (blk_below hv_ hb7) 0); clear ho hb7 hg7 hat7))
      go_wp2
      go_ret
      have hgm : gm < w2.heap.size := by obtain ⟨v_, hv_, _⟩ := HH.out; exact blk_lt hv_
      refine ⟨rfl, ⟨.slice A7 L7.length c7, ?_, ?_⟩, ?_⟩
      · obtain ⟨v_, hv_, _⟩ := HH.out
        exact blk_put (blk_below hv_ HB7.out) 0 _ rfl
      · have := Kd.R_far (p := ⟨gm, 0, none⟩) HO7.out (fun k hk => by have : w2.heap.size ≤ k := hk; show k ≠ gm; omega) (.slice A7 L7.length c7)
        exact Kd.R_mono (Kd.R_lower this (by omega)) (fun k hk => by have h9 : w2.heap.size ≤ k := hk; show gm < k; omega)
      · have hgw : gm ≤ w.heap.size := Nat.le_of_lt HGM.out
        exact ((HB.out.mono hgw).trans (HB7.out.mono (by omega))).setCell (Nat.le_refl gm) _
end Go.Proofs.Ytonafabgbkohlaa.La


namespace Go.Proofs.Ytonafabgbkohlaa.La
open Go.RowKit Go.Proofs.Ytonafabgbkohlaa.Zip Go.Proofs.YtonafabgbkohlaaW.PrintWords Go.Proofs.YtonafabgbkohlaaW.PrintLast Go.Proofs.YtonafabgbkohlaaW.PrintMore Go.Proofs.Ytonafabgbkohlaa.Q
set_option linter.unusedSimpArgs false
set_option linter.unusedVariables false
set_option maxRecDepth 100000 in
set_option maxHeartbeats 2000000 in
theorem map_put_bad {gm : Nat} {most : Int} {L : List Pr} {w : World} (h : Mp gm most L w) (key : ByteArray) (val : Int) (hk : key.size = 0 ∨ key.size > 33) :
    Calls Try.prog 26 #[.pointer (some ⟨gm, 0, none⟩), .string key, .int .i64 val] w fun e w' => e = .returned (.int .i64 1) ∧ Mp gm most L w' ∧ Below gm w w' := by
  have HH := Aside0.mk h
  have HM := Aside0.mk (may_no hk)
  have HGM := Aside0.mk (show gm < w.heap.size by obtain ⟨v_, hv_, _⟩ := h; exact blk_lt hv_)
  clear h hk
  go_enter Try.func26, Try.ntmps26
  go_upto_region 2 with (go_at_call 36; refine (sandglassref05_May.calls key _ _ HM.out).mono ?_; rintro e w1 ⟨rfl, hd⟩; have HB := Aside0.mk hd.below; replace HH := Aside0.mk (HH.out.below hd.below); clear hd)
  go_wp2
  go_ret
  exact ⟨rfl, HH.out, HB.out.mono (Nat.le_of_lt HGM.out)⟩
set_option maxRecDepth 100000 in
set_option maxHeartbeats 2000000 in
theorem map_put_full {gm : Nat} {most : Int} {L : List Pr} {w : World} (h : Mp gm most L w) (key : ByteArray) (val : Int) (hk : 1 ≤ key.size ∧ key.size ≤ 33) {i : Nat} (hp : PlaceP L key i false) (hL : L.length ≤ 1000000) (hm : most ≤ (L.length : Int)) :
    Calls Try.prog 26 #[.pointer (some ⟨gm, 0, none⟩), .string key, .int .i64 val] w fun e w' => e = .returned (.int .i64 4) ∧ Mp gm most L w' ∧ Below gm w w' := by
  have HH := Aside0.mk h
  have HP := Aside0.mk hp
  have HL := Aside0.mk hL
  have HM := Aside0.mk (may_yes hk)
  have HGM := Aside0.mk (show gm < w.heap.size by obtain ⟨v_, hv_, _⟩ := h; exact blk_lt hv_)
  have dm : decide (most ≤ (L.length : Int)) = true := decide_eq_true (by omega)
  clear h hp hL hk
  go_enter Try.func26, Try.ntmps26
  go_upto_region 3 with (go_at_call 36; refine (sandglassref05_May.calls key _ _ HM.out).mono ?_; rintro e w1 ⟨rfl, hd⟩; have HB := Aside0.mk hd.below; replace HH := Aside0.mk (HH.out.below hd.below); clear hd)
  go_upto_region 4 with (go_at_call 37; refine (map_place HH.out key HP.out HL.out).mono ?_; rintro e w2 ⟨rfl, hb⟩; replace HB := Aside0.mk (HB.out.trans (hb.mono HB.out.size)); replace HH := Aside0.mk (HH.out.below hb); clear hb)
  obtain ⟨A, c, c0, c1, hC, hlc⟩ := HH.out.cells
  have c0d : w2.drew.cell? ⟨gm, 0, none⟩ = some (.slice A L.length c) := c0
  have c1d : w2.drew.cell? ⟨gm, 1, none⟩ = some (.int .i64 most) := c1
  clear hC hlc
  go_upto_region 7 with (fail)
  go_region
  all_goals
    go_wp2
    go_ret
    exact ⟨rfl, by first | exact HH.out | exact HH.out.drew, by first | exact HB.out.mono (Nat.le_of_lt HGM.out) | exact below_drew (HB.out.mono (Nat.le_of_lt HGM.out))⟩
theorem R_put1 {W : World} {base : Nat} {ok : Nat → Prop} {g n cap : Nat} {xs : List Pr} (HO : Kd.R kP 70 W base ok (.slice (some ⟨g, 0, none⟩) n cap) xs) (i : Nat) (h1 : i < n) (val : Int) :
    Kd.R kP 70 (W.setCell ⟨g, i * 2 + 1, none⟩ (.int .i64 val)) base ok (.slice (some ⟨g, 0, none⟩) n cap) (xs.set i ⟨(rd_T70 xs (i : Int)).f0, val⟩) := by
  have hr := Kd.R_reads' HO
  obtain ⟨ad, c, e, hcl, hK, hc⟩ := Kd.C_get hr.2.2 z70 (i : Int) (by omega) (by omega)
  cases e
  have hko := k70_open hK
  have := Kd.R_seg (okp := fun k => ok k ∧ k ≠ g) (j := 1) (seg := [.int .i64 val]) (x' := (⟨(rd_T70 xs (i : Int)).f0, val⟩ : Pr)) HO (i : Int) (by omega) (by omega) hcl (fun j u hj => by have := hc j u hj; rw [add_plain] at this; exact this) (by show 1 + 1 ≤ 2; omega) (by
    rw [hko]
    exact k70_mkM W base _ _) (fun k hk => hk)
  rw [Int.toNat_natCast] at this
  exact this.1
set_option maxRecDepth 100000 in
set_option maxHeartbeats 2000000 in
theorem map_put_old {gm : Nat} {most : Int} {L : List Pr} {w : World} (h : Mp gm most L w) (key : ByteArray) (val : Int) (hk : 1 ≤ key.size ∧ key.size ≤ 33) {i : Nat} (hp : PlaceP L key i true) (hL : L.length ≤ 1000000) :
    Calls Try.prog 26 #[.pointer (some ⟨gm, 0, none⟩), .string key, .int .i64 val] w fun e w' => e = .returned (.int .i64 0) ∧ Mp gm most (L.set i ⟨(rd_T70 L (i : Int)).f0, val⟩) w' ∧ Below gm w w' := by
  have HH := Aside0.mk h
  have HP := Aside0.mk hp
  have HL := Aside0.mk hL
  have HM := Aside0.mk (may_yes hk)
  have HGM := Aside0.mk (show gm < w.heap.size by obtain ⟨v_, hv_, _⟩ := h; exact blk_lt hv_)
  clear h hp hL hk
  go_enter Try.func26, Try.ntmps26
  go_upto_region 3 with (go_at_call 36; refine (sandglassref05_May.calls key _ _ HM.out).mono ?_; rintro e w1 ⟨rfl, hd⟩; have HB := Aside0.mk hd.below; replace HH := Aside0.mk (HH.out.below hd.below); clear hd)
  go_upto_region 4 with (go_at_call 37; refine (map_place HH.out key HP.out HL.out).mono ?_; rintro e w2 ⟨rfl, hb⟩; replace HB := Aside0.mk (HB.out.trans (hb.mono HB.out.size)); replace HH := Aside0.mk (HH.out.below hb); clear hb)
  have hi := (HP.out.iff.1 rfl).1
  obtain ⟨v, hv, hR⟩ := HH.out
  obtain ⟨g, cap, rfl, hbg, hlg, cells, hcs⟩ := Kd.R_form hR (by omega)
  have c0 := (blk_cell hv 0).trans rfl
  obtain ⟨ad, ea, x0, x1⟩ := at_T70 (Kd.R_reads' hR).2.2 (i : Int) (by omega) (by omega)
  cases ea
  simp only [Int.toNat_natCast] at x0 x1
  rw [add_plain] at x0 x1
  have z1 : w2.frozen? ⟨g, i * 2 + 1, none⟩ = false := blk_frozen hcs _
  have HRS := Aside0.mk (R_put1 hR i hi val)
  have HV := Aside0.mk hv
  have q0 := eq_true hi
  have HI := Aside0.mk hi
  have HBG := Aside0.mk hbg
  clear hv hR hcs hbg hlg
  go_wp2
  go_ret
  refine ⟨rfl, ⟨.slice (some ⟨g, 0, none⟩) L.length cap, blk_far HV.out (by have := HBG.out; show gm ≠ g; omega) _, ?_⟩, ?_⟩
  · exact HRS.out
  · exact ((HB.out.mono (Nat.le_of_lt HGM.out))).setCell (by have := HBG.out; show gm ≤ g; omega) _
set_option maxRecDepth 100000 in
set_option maxHeartbeats 2000000 in
theorem map_del_no {gm : Nat} {most : Int} {L : List Pr} {w : World} (h : Mp gm most L w) (key : ByteArray) {i : Nat} (hp : PlaceP L key i false) (hL : L.length ≤ 1000000) :
    Calls Try.prog 28 #[.pointer (some ⟨gm, 0, none⟩), .string key] w fun e w' => e = .returned (.bool false) ∧ Mp gm most L w' ∧ Below gm w w' := by
  have HH := Aside0.mk h
  have HP := Aside0.mk hp
  have HL := Aside0.mk hL
  have HGM := Aside0.mk (show gm < w.heap.size by obtain ⟨v_, hv_, _⟩ := h; exact blk_lt hv_)
  clear h hp hL
  go_enter Try.func28, Try.ntmps28
  go_upto_region 2 with (go_at_call 37; refine (map_place HH.out key HP.out HL.out).mono ?_; rintro e w2 ⟨rfl, hb⟩; have HB := Aside0.mk hb; replace HH := Aside0.mk (HH.out.below hb); clear hb)
  go_wp2
  go_ret
  exact ⟨rfl, HH.out, HB.out.mono (Nat.le_of_lt HGM.out)⟩
set_option maxRecDepth 100000 in
set_option maxHeartbeats 2000000 in
theorem map_del_yes {gm : Nat} {most : Int} {L : List Pr} {w : World} (h : Mp gm most L w) (key : ByteArray) {i : Nat} (hp : PlaceP L key i true) (hL : L.length ≤ 1000000) :
    Calls Try.prog 28 #[.pointer (some ⟨gm, 0, none⟩), .string key] w fun e w' => e = .returned (.bool true) ∧ Mp gm most (L.take i ++ L.drop (i + 1)) w' ∧ Below gm w w' := by
  have HH := Aside0.mk h
  have HP := Aside0.mk hp
  have HL := Aside0.mk hL
  have HGM := Aside0.mk (show gm < w.heap.size by obtain ⟨v_, hv_, _⟩ := h; exact blk_lt hv_)
  have inf : (Try.prog.info? 70).map (fun i => (i.zero, i.size, i.bytes)) = some (some (.agg #[(.string ⟨#[]⟩), (.int .i64 0)]), kP.sz, 24) := by kernel_rfl
  obtain ⟨L7, hL7⟩ : ∃ L7, L.take i ++ L.drop (i + 1) = L7 := ⟨_, rfl⟩
  rw [hL7]
  have HL7 := Aside0.mk hL7
  clear h hp hL hL7
  go_enter Try.func28, Try.ntmps28
  go_upto_region 2 with (go_at_call 37; refine (map_place HH.out key HP.out HL.out).mono ?_; rintro e w2 ⟨rfl, hb⟩; have HB := Aside0.mk hb; replace HH := Aside0.mk (HH.out.below hb); clear hb)
  go_upto_region 4 with (fail)
  obtain ⟨A, c, c0, c1, hC, hlc⟩ := HH.out.cells
  have c0d : w2.drew.cell? ⟨gm, 0, none⟩ = some (.slice A L.length c) := c0
  have HC := Aside0.mk hC
  have hil := (HP.out.iff.1 rfl).1
  have HIL := Aside0.mk hil
  have q0 := eq_true (show (0 : Int) ≤ (i : Int) by omega)
  have hic : i ≤ c := by omega
  have q1 := eq_true (show (i : Int) ≤ (c : Int) by omega)
  have q2 : decide (i ≤ c) = true := decide_eq_true hic
  have HLC := Aside0.mk hlc
  clear hC hlc
  have c0a : (w2.alloc (.cells #[] 70)).cell? ⟨gm, 0, none⟩ = some (.slice A L.length c) := pw_cell_below (below_alloc (Below.refl _ _) _) c0
  have HC2 := Aside0.mk (show Kd.C kP (w2.alloc (.cells #[] 70)) A i (L.take i) from by have := Kd.C_take (Kd.C_below HC.out (below_alloc (Below.refl _ _) (.cells #[] 70))) HP.out.le; rwa [List.length_take, Nat.min_eq_left HP.out.le] at this)
  have HE := Aside0.mk (R_empty (ok := fun k => w2.heap.size ≤ k) (blk_new w2 (.cells #[] 70)) (Nat.le_refl _) (Nat.le_refl _))
  have HBa := Aside0.mk (below_alloc (Below.refl w2.heap.size w2) (.cells #[] 70))
  have HTL := Aside0.mk (show (L.take i).length ≤ 1000000 by rw [List.length_take]; have := HL.out; omega)
  go_upto_region 5 with (((with_reducible refine gate_builtin (b := .append) (xs := #[.tmp 16, .tmp 22]) rfl ?_); at_builtin; refine Kd.R_append_rows kP (w0 := w2) w2.heap.size rfl (.tmp 16) (.tmp 22) 37 70 (.agg #[(.string ⟨#[]⟩), (.int .i64 0)]) 24 rfl Try.underlying37 inf rfl (by decide) (by omega) (.slice (some ⟨w2.heap.size, 0, none⟩) 0 0) [] (L.take i) A i c (fun k_ => w2.heap.size ≤ k_) (fun _ => False) rfl rfl HE.out HC2.out (fun _ _ h => h) (fun _ h => h.elim) (fun _ hk => Nat.le_trans HBa.out.size hk) (by first | exact HBa.out | exact below_drew HBa.out) HBa.out.size (by have := HL.out; have := HP.out.le; show (0 + i) * 24 ≤ 140737488355328; omega) ?_; intro v5 w5 ho hb5 hg5 hat5; have HO5 := Aside0.mk ho; have HB5 := Aside0.mk hb5; clear ho hb5 hg5 hat5 c0a))
  clear HE HC2 HBa
  have c06 : w5.cell? ⟨gm, 0, none⟩ = some (.slice A L.length c) := pw_cell_below HB5.out c0
  have c06d : w5.drew.cell? ⟨gm, 0, none⟩ = some (.slice A L.length c) := c06
  have z6 : w5.frozen? ⟨gm, 0, none⟩ = false := by obtain ⟨v_, hv_, _⟩ := HH.out; exact blk_frozen (blk_below hv_ HB5.out) 0
  obtain ⟨m, hm1⟩ : ∃ m, m = i + 1 := ⟨_, rfl⟩
  have HM1 := Aside0.mk hm1
  have hml : m ≤ L.length := by have := HIL.out; omega
  have wm : wrap64 ((i : Int) + 1) = (m : Int) := by have := HL.out; unfold wrap64; omega
  rw [← hm1] at HL7
  have HC5 := Aside0.mk (Kd.C_drop (Kd.C_below HC.out HB5.out) hml HLC.out)
  have q4 := eq_true hml
  clear hm1 hic hil
  by_cases hci : c = m
  · have hcn : (c = m) = True := eq_true hci
    go_upto_region 6 with (((with_reducible refine gate_builtin (b := .append) (xs := #[.tmp 25, .tmp 32]) rfl ?_); at_builtin; refine Kd.R_append_rows kP (w0 := w2) w2.heap.size rfl (.tmp 25) (.tmp 32) 37 70 (.agg #[(.string ⟨#[]⟩), (.int .i64 0)]) 24 rfl Try.underlying37 inf rfl (by decide) (by omega) v5 _ (L.drop m) _ _ _ (fun k_ => w2.heap.size ≤ k_) (fun _ => False) rfl rfl HO5.out (by have := HC5.out; rw [if_pos hci, List.length_drop] at this; exact this) (fun _ _ h => h) (fun _ h => h.elim) (fun _ hk => Nat.le_trans HB5.out.size hk) (by first | exact HB5.out | exact below_drew HB5.out) HB5.out.size (by have := HL.out; have := HTL.out; simp; omega) ?_; intro v7 w7 ho hb7 hg7 hat7; replace ho : Kd.R kP 70 w7 w2.heap.size (fun k_ => w2.heap.size ≤ k_) v7 L7 := (by rw [← HL7.out]; exact ho); obtain ⟨A7, c7, rfl⟩ := Kd.R_slice ho; have HO7 := Aside0.mk ho; have HB7 := Aside0.mk hb7; have c07 : w7.cell? ⟨gm, 0, none⟩ = _ := pw_cell_below hb7 c0; have z7 : w7.frozen? ⟨gm, 0, none⟩ = false := (by obtain ⟨v_, hv_, _⟩ := HH.out; exact blk_frozen (blk_below hv_ hb7) 0); clear ho hb7 hg7 hat7))
    go_wp2
    go_ret
    have hgm : gm < w2.heap.size := by obtain ⟨v_, hv_, _⟩ := HH.out; exact blk_lt hv_
    refine ⟨rfl, ⟨.slice A7 L7.length c7, ?_, ?_⟩, ?_⟩
    · obtain ⟨v_, hv_, _⟩ := HH.out
      exact blk_put (blk_below hv_ HB7.out) 0 _ rfl
    · have := Kd.R_far (p := ⟨gm, 0, none⟩) HO7.out (fun k hk => by have : w2.heap.size ≤ k := hk; show k ≠ gm; omega) (.slice A7 L7.length c7)
      exact Kd.R_mono (Kd.R_lower this (by omega)) (fun k hk => by have h9 : w2.heap.size ≤ k := hk; show gm < k; omega)
    · have hgw : gm ≤ w.heap.size := Nat.le_of_lt HGM.out
      exact ((HB.out.mono hgw).trans (HB7.out.mono (by omega))).setCell (Nat.le_refl gm) _
  · have hcn : (c = m) = False := eq_false hci
    go_upto_region 6 with (((with_reducible refine gate_builtin (b := .append) (xs := #[.tmp 25, .tmp 32]) rfl ?_); at_builtin; refine Kd.R_append_rows kP (w0 := w2) w2.heap.size rfl (.tmp 25) (.tmp 32) 37 70 (.agg #[(.string ⟨#[]⟩), (.int .i64 0)]) 24 rfl Try.underlying37 inf rfl (by decide) (by omega) v5 _ (L.drop m) _ _ _ (fun k_ => w2.heap.size ≤ k_) (fun _ => False) rfl rfl HO5.out (by have := HC5.out; rw [if_neg hci, List.length_drop] at this; exact this) (fun _ _ h => h) (fun _ h => h.elim) (fun _ hk => Nat.le_trans HB5.out.size hk) (by first | exact HB5.out | exact below_drew HB5.out) HB5.out.size (by have := HL.out; have := HTL.out; simp; omega) ?_; intro v7 w7 ho hb7 hg7 hat7; replace ho : Kd.R kP 70 w7 w2.heap.size (fun k_ => w2.heap.size ≤ k_) v7 L7 := (by rw [← HL7.out]; exact ho); obtain ⟨A7, c7, rfl⟩ := Kd.R_slice ho; have HO7 := Aside0.mk ho; have HB7 := Aside0.mk hb7; have c07 : w7.cell? ⟨gm, 0, none⟩ = _ := pw_cell_below hb7 c0; have z7 : w7.frozen? ⟨gm, 0, none⟩ = false := (by obtain ⟨v_, hv_, _⟩ := HH.out; exact blk_frozen (blk_below hv_ hb7) 0); clear ho hb7 hg7 hat7))
    go_wp2
    go_ret
    have hgm : gm < w2.heap.size := by obtain ⟨v_, hv_, _⟩ := HH.out; exact blk_lt hv_
    refine ⟨rfl, ⟨.slice A7 L7.length c7, ?_, ?_⟩, ?_⟩
    · obtain ⟨v_, hv_, _⟩ := HH.out
      exact blk_put (blk_below hv_ HB7.out) 0 _ rfl
    · have := Kd.R_far (p := ⟨gm, 0, none⟩) HO7.out (fun k hk => by have : w2.heap.size ≤ k := hk; show k ≠ gm; omega) (.slice A7 L7.length c7)
      exact Kd.R_mono (Kd.R_lower this (by omega)) (fun k hk => by have h9 : w2.heap.size ≤ k := hk; show gm < k; omega)
    · have hgw : gm ≤ w.heap.size := Nat.le_of_lt HGM.out
      exact ((HB.out.mono hgw).trans (HB7.out.mono (by omega))).setCell (Nat.le_refl gm) _
set_option maxRecDepth 100000 in
set_option maxHeartbeats 2000000 in
theorem map_keys {gm : Nat} {most : Int} {L : List Pr} {w : World} (h : Mp gm most L w) (hL : L.length ≤ 1000000) :
    Calls Try.prog 18 #[.pointer (some ⟨gm, 0, none⟩)] w fun e w' => ∃ v, e = .returned v ∧ Kd.R Kd.string 9 w' w.heap.size (fun _ => True) v (L.map (fun p => p.f0)) ∧ Below w.heap.size w w' := by
  obtain ⟨A, c, c0, c1, hC, hlc⟩ := h.cells
  have HC := Aside0.mk hC
  have HL := Aside0.mk hL
  have inf : (Try.prog.info? 9).map (fun i => (i.zero, i.size, i.bytes)) = some (some (.string ⟨#[]⟩), Kd.string.sz, 16) := by kernel_rfl
  clear h hC hlc hL
  go_enter Try.func18, Try.ntmps18
  go_wp2
  go_loopw [3, 4] (fun v3 v4 w' => ∃ j : Nat, v4 = .int .i64 j ∧ Aside0 (j ≤ L.length) ∧ Aside0 (Kd.R Kd.string 9 w' w.heap.size (fun _ => True) v3 ((L.take j).map (fun p => p.f0))) ∧ Aside0 (Below w.heap.size w w')) (fun _ v4 _ => L.length - (intOf v4).toNat)
  case atStart => exact ⟨0, rfl, ⟨Nat.zero_le _⟩, ⟨Kd.R_nil _ _ _ _ _⟩, ⟨Below.refl _ _⟩⟩
  case round =>
    obtain ⟨j, rfl, HJ, HO, HB⟩ := hrel
    have c0r : wr.cell? ⟨gm, 0, none⟩ = some (.slice A L.length c) := pw_cell_below HB.out c0
    by_cases hlt : j < L.length
    · have d2 : decide (j < L.length) = true := decide_eq_true hlt
      have HLT := Aside0.mk hlt
      obtain ⟨ad, ea, x0, x1⟩ := at_T70 (Kd.C_below HC.out HB.out) (j : Int) (by omega) (by omega)
      subst ea
      simp only [Int.toNat_natCast] at x0 x1
      obtain ⟨key, hkey⟩ : ∃ key, (rd_T70 L (j : Int)).f0 = key := ⟨_, rfl⟩
      rw [hkey] at x0
      have HK := Aside0.mk (show (L.take (j + 1)).map (fun p => p.f0) = (L.take j).map (fun p => p.f0) ++ [key] by
        rw [List.take_succ_eq_append_getElem hlt, List.map_append]
        congr 1
        rw [← hkey]
        unfold rd_T70
        rw [Int.toNat_natCast, List.getD_eq_getElem?_getD, List.getElem?_eq_getElem hlt]; rfl)
      have HTL := Aside0.mk (show ((L.take j).map (fun p => p.f0)).length ≤ 1000000 by rw [List.length_map, List.length_take]; have := HL.out; omega)
      have DW := Aside0.mk (show wrap64 ((j : Int) + 1) = ((j + 1 : Nat) : Int) by have := HL.out; unfold wrap64; omega)
      have q2 := eq_true hlt
      clear hlt hkey
      go_wp2_with ((with_reducible refine gate_builtin (b := .append) (xs := #[.tmp 14, .tmp 23]) rfl ?_); at_builtin; refine Kd.R_append Kd.string (w0 := w) w.heap.size rfl (.tmp 14) (.tmp 23) 41 9 (.string ⟨#[]⟩) 16 rfl Try.underlying41 inf rfl (by decide) (by omega) u3 ((L.take j).map (fun p => p.f0)) key [.string key] (fun _ => True) (fun _ => False) rfl rfl rfl (fun _ h => h.elim) (fun _ _ => trivial) HO.out HB.out HB.out.size (by have := HTL.out; omega) ?_; intro v6 w6 ho hb6 hg6 hat6; rw [← HK.out] at ho; have HO6 := Aside0.mk ho; have HB6 := Aside0.mk hb6; clear ho hb6 hg6 hat6)
      refine ⟨⟨j + 1, by rw [DW.out], ⟨by have := HLT.out; omega⟩, HO6, HB6⟩, ?_⟩
      rw [DW.out]; simp only [intOf]; have := HLT.out; omega
    · obtain rfl : j = L.length := by have := HJ.out; omega
      have d2 : decide (L.length < L.length) = false := decide_eq_false hlt
      clear hlt
      go_wp2
      go_ret
      exact ⟨_, rfl, by have := HO.out; rwa [List.take_length] at this, HB.out⟩
end Go.Proofs.Ytonafabgbkohlaa.La


namespace Go.Proofs.Ytonafabgbkohlaa.La
open Go.RowKit Go.Proofs.YtonafabgbkohlaaW.PrintWords Go.Proofs.YtonafabgbkohlaaW.PrintLast Go.Proofs.YtonafabgbkohlaaW.PrintMore Go.Proofs.Ytonafabgbkohlaa.Q
set_option linter.unusedSimpArgs false
set_option linter.unusedVariables false
/-- Texts, rising. -/
def tl (a b : ByteArray) : Prop := a.data.toList < b.data.toList
instance (a b : ByteArray) : Decidable (tl a b) := by unfold tl; infer_instance
theorem tl_irr (a : ByteArray) (h : tl a a) : False := List.lt_irrefl _ h
theorem tl_trans {a b c : ByteArray} (h : tl a b) (k : tl b c) : tl a c := List.lt_trans h k
theorem ba_ext {a b : ByteArray} (h : a.data.toList = b.data.toList) : a = b := by
  cases a; cases b; simp at h; rw [h]
theorem tl_tri {a b : ByteArray} (h : ¬ tl a b) (k : a ≠ b) : tl b a := by
  apply Classical.byContradiction
  intro h2
  exact k (ba_ext (List.le_antisymm (List.not_lt.1 h2) (List.not_lt.1 h)))
theorem less_iff (a b : ByteArray) : Op.bytesLess a.toList b.toList = decide (tl a b) := by
  rw [bytesLess_eq, ByteArray.toList_eq, ByteArray.toList_eq]; rfl
def Srt (L : List Pr) : Prop := L.Pairwise (fun p q => tl p.f0 q.f0)
/-- A map's list holds just what f says. -/
structure MS (L : List Pr) (us : Int) (f : KF) : Prop where
  srt : Srt L
  has : ∀ k v, f k = some v ↔ (⟨k, v⟩ : Pr) ∈ L
  len : us = (L.length : Int)
theorem MS.nil : MS [] 0 (fun _ => none) := ⟨List.Pairwise.nil, fun k v => by simp, rfl⟩
theorem rdP_at {L : List Pr} {i : Nat} (h : i < L.length) : rd_T70 L (i : Int) = L[i] := by
  unfold rd_T70
  rw [Int.toNat_natCast, List.getD_eq_getElem?_getD, List.getElem?_eq_getElem h]; rfl
theorem place_ex : ∀ (L : List Pr) (key : ByteArray), ∃ i is, PlaceP L key i is
  | [], key => ⟨0, false, Nat.le_refl _, fun j h => absurd h (Nat.not_lt_zero _), fun h => absurd h (Nat.lt_irrefl _), ⟨fun h => Bool.noConfusion h, fun h => absurd h.1 (Nat.lt_irrefl _)⟩⟩
  | p :: L, key => by
    by_cases h : tl p.f0 key
    · obtain ⟨i, is, h1, h2, h3, h4⟩ := place_ex L key
      have sh : ∀ j : Nat, rd_T70 (p :: L) ((j + 1 : Nat) : Int) = rd_T70 L (j : Int) := fun j => by
        unfold rd_T70
        rw [Int.toNat_natCast, Int.toNat_natCast]; rfl
      refine ⟨i + 1, is, by simpa using h1, fun j hj => ?_, fun hl => ?_, ?_⟩
      · cases j with
        | zero => rw [less_iff]; exact decide_eq_true h
        | succ j => rw [sh]; exact h2 j (by omega)
      · rw [sh]; exact h3 (by simpa using hl)
      · rw [sh, h4]; simp
    · refine ⟨0, decide (p.f0 = key), Nat.zero_le _, fun j h => absurd h (Nat.not_lt_zero _), fun _ => ?_, ?_⟩
      · rw [less_iff]; exact decide_eq_false h
      · rw [decide_eq_true_iff]; exact ⟨fun e => ⟨by simp, e⟩, fun e => e.2⟩
theorem split_no {L : List Pr} {key : ByteArray} {i : Nat} (h : Srt L) (hp : PlaceP L key i false) : (∀ p ∈ L.take i, tl p.f0 key) ∧ (∀ p ∈ L.drop i, tl key p.f0) := by
  constructor
  · intro p hm
    obtain ⟨j, hj, e⟩ := List.mem_iff_getElem.1 hm
    rw [List.length_take] at hj
    rw [List.getElem_take] at e
    have := hp.lo j (by omega)
    rw [less_iff, rdP_at (by omega), e] at this
    exact of_decide_eq_true this
  · intro p hm
    have hi : i < L.length := by
      apply Classical.byContradiction; intro h2
      rw [List.drop_of_length_le (by omega)] at hm; cases hm
    have h0 : tl key L[i].f0 := by
      refine tl_tri ?_ ?_
      · have := hp.hi hi
        rw [less_iff, rdP_at hi] at this
        exact of_decide_eq_false this
      · intro e
        have := hp.iff.2 ⟨hi, by rw [rdP_at hi]; exact e⟩
        cases this
    obtain ⟨j, hj, e⟩ := List.mem_iff_getElem.1 hm
    rw [List.getElem_drop] at e
    rw [List.length_drop] at hj
    cases j with
    | zero => rw [← e]; exact h0
    | succ j =>
      have := List.pairwise_iff_getElem.1 h i (i + (j + 1)) hi (by omega) (by omega)
      rw [e] at this
      exact tl_trans h0 this
theorem split_yes {L : List Pr} {key : ByteArray} {i : Nat} (h : Srt L) (hp : PlaceP L key i true) : ∃ v, rd_T70 L (i : Int) = ⟨key, v⟩ ∧ L = L.take i ++ (⟨key, v⟩ : Pr) :: L.drop (i + 1) ∧ (∀ y, L.set i y = L.take i ++ y :: L.drop (i + 1)) ∧ (∀ p ∈ L.take i, tl p.f0 key) ∧ (∀ p ∈ L.drop (i + 1), tl key p.f0) := by
  obtain ⟨hi, hk⟩ := hp.iff.1 rfl
  rw [rdP_at hi] at hk
  have hx : L[i] = ⟨key, L[i].f1⟩ := by
    rcases e : L[i] with ⟨a, b⟩
    rw [e] at hk
    subst hk; rfl
  have hsp : ∀ y : Pr, L.set i y = L.take i ++ y :: L.drop (i + 1) := fun y => List.set_eq_take_append_cons_drop ▸ by rw [if_pos hi]
  have hL : L = L.take i ++ L[i] :: L.drop (i + 1) := by
    have := hsp L[i]
    rwa [List.set_getElem_self] at this
  refine ⟨L[i].f1, by rw [rdP_at hi]; exact hx, by rw [← hx]; exact hL, hsp, ?_, ?_⟩
  · intro p hm
    obtain ⟨j, hj, e⟩ := List.mem_iff_getElem.1 hm
    rw [List.length_take] at hj
    rw [List.getElem_take] at e
    have := hp.lo j (by omega)
    rw [less_iff, rdP_at (by omega), e] at this
    exact of_decide_eq_true this
  · intro p hm
    obtain ⟨j, hj, e⟩ := List.mem_iff_getElem.1 hm
    rw [List.getElem_drop] at e
    rw [List.length_drop] at hj
    have := List.pairwise_iff_getElem.1 h i (i + 1 + j) hi (by omega) (by omega)
    rw [e, hk] at this
    exact this
theorem tl_ne {a b : ByteArray} (h : tl a b) : a ≠ b := fun e => by subst e; exact tl_irr _ h
variable {L : List Pr} {us : Int} {f : KF} {key : ByteArray} {i : Nat}
theorem MS.no (h : MS L us f) (hp : PlaceP L key i false) : f key = none := by
  cases e : f key with
  | none => rfl
  | some v =>
    have hm := (h.has key v).1 e
    obtain ⟨s1, s2⟩ := split_no h.srt hp
    rw [← List.take_append_drop i L, List.mem_append] at hm
    rcases hm with hm | hm
    · exact absurd rfl (tl_ne (s1 _ hm))
    · exact absurd rfl (tl_ne (s2 _ hm))
theorem MS.yes (h : MS L us f) (hp : PlaceP L key i true) : f key = some (rd_T70 L (i : Int)).f1 := by
  obtain ⟨v, h1, h2, _⟩ := split_yes h.srt hp
  rw [h1]
  refine (h.has key v).2 ?_
  rw [h2]; simp
theorem MS.get (h : MS L us f) {is : Bool} (hp : PlaceP L key i is) : getF f key = ((if is = true then (rd_T70 L (i : Int)).f1 else 0), is) := by
  unfold getF
  cases is with
  | false => rw [h.no hp]; rfl
  | true => rw [h.yes hp]; rfl
theorem srt_mid {A B : List Pr} {x : Pr} (hA : Srt A) (hB : Srt B) (h1 : ∀ p ∈ A, tl p.f0 x.f0) (h2 : ∀ p ∈ B, tl x.f0 p.f0) : Srt (A ++ x :: B) := by
  refine List.pairwise_append.2 ⟨hA, List.pairwise_cons.2 ⟨h2, hB⟩, fun a ha b hb => ?_⟩
  rcases List.mem_cons.1 hb with rfl | hb
  · exact h1 a ha
  · exact tl_trans (h1 a ha) (h2 b hb)
theorem MS.put_new (h : MS L us f) (hp : PlaceP L key i false) (val : Int) : MS (L.take i ++ [⟨key, val⟩] ++ L.drop i) (us + 1) (upd f key (some val)) := by
  obtain ⟨s1, s2⟩ := split_no h.srt hp
  have e : L.take i ++ [(⟨key, val⟩ : Pr)] ++ L.drop i = L.take i ++ (⟨key, val⟩ : Pr) :: L.drop i := by simp
  rw [e]
  refine ⟨srt_mid (h.srt.sublist (List.take_sublist _ _)) (h.srt.sublist (List.drop_sublist _ _)) s1 s2, fun q w => ?_, ?_⟩
  · have hm : ∀ p : Pr, p ∈ L.take i ++ (⟨key, val⟩ : Pr) :: L.drop i ↔ p = ⟨key, val⟩ ∨ p ∈ L := fun p => by
      conv => rhs; rw [← List.take_append_drop i L]
      simp only [List.mem_append, List.mem_cons]
      exact ⟨fun h => h.elim (fun x => Or.inr (Or.inl x)) (fun x => x.elim Or.inl (fun y => Or.inr (Or.inr y))), fun h => h.elim (fun x => Or.inr (Or.inl x)) (fun x => x.elim Or.inl (fun y => Or.inr (Or.inr y)))⟩
    rw [hm]
    unfold upd
    by_cases e : q = key
    · subst e
      rw [if_pos rfl]
      constructor
      · intro r; exact Or.inl (by rw [Option.some.inj r])
      · rintro (r | r)
        · have r2 := congrArg (fun z : Pr => z.f1) r
          exact congrArg some (show val = w from r2.symm)
        · have := (h.has q w).2 r
          rw [h.no hp] at this; cases this
    · rw [if_neg e, h.has]
      constructor
      · exact Or.inr
      · rintro (r | r)
        · exact absurd (congrArg (fun z : Pr => z.f0) r) e
        · exact r
  · rw [h.len]
    have := hp.le
    simp only [List.length_append, List.length_take, List.length_cons, List.length_drop]
    omega
theorem MS.put_old (h : MS L us f) (hp : PlaceP L key i true) (val : Int) : MS (L.set i ⟨(rd_T70 L (i : Int)).f0, val⟩) us (upd f key (some val)) := by
  obtain ⟨v, h1, h2, h3, s1, s2⟩ := split_yes h.srt hp
  rw [h1, h3]
  refine ⟨srt_mid (h.srt.sublist (List.take_sublist _ _)) (h.srt.sublist (List.drop_sublist _ _)) s1 s2, fun q w => ?_, ?_⟩
  · simp only [List.mem_append, List.mem_cons]
    unfold upd
    have hh := h.has q w
    rw [h2] at hh
    simp only [List.mem_append, List.mem_cons] at hh
    by_cases e : q = key
    · subst e
      rw [if_pos rfl]
      constructor
      · intro r; exact Or.inr (Or.inl (by rw [Option.some.inj r]))
      · rintro (r | r | r)
        · exact absurd rfl (tl_ne (s1 _ r))
        · have r2 := congrArg (fun z : Pr => z.f1) r
          exact congrArg some (show val = w from r2.symm)
        · exact absurd rfl (tl_ne (s2 _ r))
    · rw [if_neg e, hh]
      constructor
      · rintro (r | r | r)
        · exact Or.inl r
        · exact absurd (congrArg (fun z : Pr => z.f0) r) e
        · exact Or.inr (Or.inr r)
      · rintro (r | r | r)
        · exact Or.inl r
        · exact absurd (congrArg (fun z : Pr => z.f0) r) e
        · exact Or.inr (Or.inr r)
  · rw [h.len, ← h3, List.length_set]
theorem MS.del (h : MS L us f) (hp : PlaceP L key i true) : MS (L.take i ++ L.drop (i + 1)) (us - 1) (upd f key none) := by
  obtain ⟨v, h1, h2, h3, s1, s2⟩ := split_yes h.srt hp
  have hi := (hp.iff.1 rfl).1
  refine ⟨?_, fun q w => ?_, ?_⟩
  · refine h.srt.sublist ?_
    conv => rhs; rw [h2]
    exact List.Sublist.append_left (List.sublist_cons_self _ _) _
  · simp only [List.mem_append]
    unfold upd
    have hh := h.has q w
    rw [h2] at hh
    simp only [List.mem_append, List.mem_cons] at hh
    by_cases e : q = key
    · subst e
      rw [if_pos rfl]
      constructor
      · intro r; cases r
      · rintro (r | r)
        · exact absurd rfl (tl_ne (s1 _ r))
        · exact absurd rfl (tl_ne (s2 _ r))
    · rw [if_neg e, hh]
      constructor
      · rintro (r | r | r)
        · exact Or.inl r
        · exact absurd (congrArg (fun z : Pr => z.f0) r) e
        · exact Or.inr r
      · rintro (r | r)
        · exact Or.inl r
        · exact Or.inr (Or.inr r)
  · rw [h.len]
    simp only [List.length_append, List.length_take, List.length_drop]
    omega
end Go.Proofs.Ytonafabgbkohlaa.La


namespace Go.Proofs.Ytonafabgbkohlaa.La
open Go.RowKit Go.Proofs.YtonafabgbkohlaaW.PrintWords Go.Proofs.YtonafabgbkohlaaW.PrintLast Go.Proofs.YtonafabgbkohlaaW.PrintMore Go.Proofs.Ytonafabgbkohlaa.Q
set_option linter.unusedSimpArgs false
set_option linter.unusedVariables false
/-- A map in memory as a function from keys to values. -/
structure MM (gm b : Nat) (us : Int) (f : KF) (W : World) : Prop where
  b1 : b ≤ 8
  le : us ≤ 2 ^ b
  ko : KeyOk f
  ex : ∃ L, Mp gm ((2 ^ b : Nat) : Int) L W ∧ MS L us f
section
variable {gm b : Nat} {us : Int} {f : KF} {W W' w : World}
theorem MM.below (h : MM gm b us f W) (hb : Below W.heap.size W W') : MM gm b us f W' := by obtain ⟨h1, h2, ko, L, h3, h4⟩ := h; exact ⟨h1, h2, ko, L, h3.below hb, h4⟩
theorem MM.drew (h : MM gm b us f W) : MM gm b us f W.drew := h.below (below_drew (Below.refl _ _))
theorem MM.fr {S : Nat → Prop} (h : MM gm b us f W) (hb : Fr S W W') (hS : ∀ q, S q → q < gm) : MM gm b us f W' := by obtain ⟨h1, h2, ko, L, h3, h4⟩ := h; exact ⟨h1, h2, ko, L, h3.fr hb hS, h4⟩
theorem MM.lt (h : MM gm b us f W) : gm < W.heap.size := by obtain ⟨h1, h2, ko, L, ⟨v_, hv_, _⟩, h4⟩ := h; exact blk_lt hv_
theorem pow_le_256 (h : b ≤ 8) : (2 : Int) ^ b ≤ 256 := by
  have := Nat.pow_le_pow_right (show 0 < 2 by omega) h
  have e : ((2 ^ b : Nat) : Int) = 2 ^ b := by simp
  rw [← e]; omega
theorem MM.len (h : MM gm b us f W) : ∃ L, Mp gm ((2 ^ b : Nat) : Int) L W ∧ MS L us f ∧ L.length ≤ 256 := by
  obtain ⟨h1, h2, ko, L, h3, h4⟩ := h
  have := pow_le_256 h1
  have := h4.len
  exact ⟨L, h3, h4, by omega⟩
theorem mm_new (b : Nat) (w : World) (h0 : 1 ≤ b) (h1 : b ≤ 8) : Calls Try.prog 13 #[.int .i64 (b : Int)] w fun e w' => e = .returned (.tuple #[.pointer (some ⟨w.heap.size, 0, none⟩), .int .i64 0]) ∧ MM w.heap.size b 0 (fun _ => none) w' ∧ Below w.heap.size w w' := by
  refine (map_new b w h0 h1).mono ?_
  rintro e w' ⟨rfl, h, hb⟩
  refine ⟨rfl, ⟨h1, ?_, KeyOk.none, [], h, MS.nil⟩, hb⟩
  have e : ((2 ^ b : Nat) : Int) = 2 ^ b := by simp
  rw [← e]; exact Int.natCast_nonneg _
theorem mm_put (h : MM gm b us f w) (key : ByteArray) (v : Int) {e0 us' : Int} {f' : KF} (hp : putF b f us key v = (e0, us', f')) :
    Calls Try.prog 26 #[.pointer (some ⟨gm, 0, none⟩), .string key, .int .i64 v] w fun e w' => e = .returned (.int .i64 e0) ∧ MM gm b us' f' w' ∧ Below gm w w' := by
  obtain ⟨L, hM, hS, hl⟩ := h.len
  have pe : ((2 ^ b : Nat) : Int) = 2 ^ b := by simp
  have hlen := hS.len
  have HKO := h.ko.put hp
  unfold putF at hp
  by_cases hb : key.size = 0 ∨ key.size > 33
  · rw [if_pos hb] at hp; cases hp
    refine (map_put_bad hM key v hb).mono ?_
    rintro e w' ⟨rfl, k1, k2⟩
    exact ⟨rfl, ⟨h.b1, h.le, HKO, L, k1, hS⟩, k2⟩
  · rw [if_neg hb] at hp
    obtain ⟨i, is, hpl⟩ := place_ex L key
    cases is with
    | true =>
      rw [hS.yes hpl] at hp; cases hp
      refine (map_put_old hM key v (by omega) hpl (by omega)).mono ?_
      rintro e w' ⟨rfl, k1, k2⟩
      exact ⟨rfl, ⟨h.b1, h.le, HKO, _, k1, hS.put_old hpl v⟩, k2⟩
    | false =>
      rw [hS.no hpl] at hp
      by_cases hu : us = 2 ^ b
      · simp only [if_pos hu] at hp; cases hp
        refine (map_put_full hM key v (by omega) hpl (by omega) (by omega)).mono ?_
        rintro e w' ⟨rfl, k1, k2⟩
        exact ⟨rfl, ⟨h.b1, h.le, HKO, L, k1, hS⟩, k2⟩
      · simp only [if_neg hu] at hp; cases hp
        have := h.le
        refine (map_put_new hM key v (by omega) hpl (by omega) (by omega)).mono ?_
        rintro e w' ⟨rfl, k1, k2⟩
        exact ⟨rfl, ⟨h.b1, by omega, HKO, _, k1, hS.put_new hpl v⟩, k2⟩
theorem mm_del (h : MM gm b us f w) (key : ByteArray) {e0 : Bool} {us' : Int} {f' : KF} (hp : delF f us key = (e0, us', f')) :
    Calls Try.prog 28 #[.pointer (some ⟨gm, 0, none⟩), .string key] w fun e w' => e = .returned (.bool e0) ∧ MM gm b us' f' w' ∧ Below gm w w' := by
  obtain ⟨L, hM, hS, hl⟩ := h.len
  have := h.le
  have HKO := h.ko.del hp
  unfold delF at hp
  obtain ⟨i, is, hpl⟩ := place_ex L key
  cases is with
  | true =>
    rw [hS.yes hpl] at hp; cases hp
    refine (map_del_yes hM key hpl (by omega)).mono ?_
    rintro e w' ⟨rfl, k1, k2⟩
    exact ⟨rfl, ⟨h.b1, by omega, HKO, _, k1, hS.del hpl⟩, k2⟩
  | false =>
    rw [hS.no hpl] at hp; cases hp
    refine (map_del_no hM key hpl (by omega)).mono ?_
    rintro e w' ⟨rfl, k1, k2⟩
    exact ⟨rfl, ⟨h.b1, h.le, HKO, L, k1, hS⟩, k2⟩
theorem mm_get (h : MM gm b us f w) (key : ByteArray) {v : Int} {is : Bool} (hp : getF f key = (v, is)) :
    Calls Try.prog 27 #[.pointer (some ⟨gm, 0, none⟩), .string key] w fun e w' => e = .returned (.tuple #[.int .i64 v, .bool is]) ∧ MM gm b us f w' ∧ Below w.heap.size w w' := by
  obtain ⟨L, hM, hS, hl⟩ := h.len
  obtain ⟨i, is2, hpl⟩ := place_ex L key
  have e := (hS.get hpl).symm.trans hp
  have e1 := congrArg Prod.fst e
  have e2 := congrArg Prod.snd e
  simp only at e1 e2
  have G := map_get hM key hpl (by omega)
  rw [e1, e2] at G
  refine G.mono ?_
  rintro e w' ⟨rfl, hb⟩
  exact ⟨rfl, h.below hb, hb⟩
/-- How many keys it has stands in its row's length. -/
theorem MM.cell (h : MM gm b us f w) : ∃ A c, w.cell? ⟨gm, 0, none⟩ = some (.slice A us.toNat c) := by
  obtain ⟨L, hM, hS, hl⟩ := h.len
  obtain ⟨A, c, c0, _⟩ := hM.cells
  have := hS.len
  exact ⟨A, c, by rw [show us.toNat = L.length by omega]; exact c0⟩
end
theorem TT.lt {g gs : Nat} {sd : Int} {b : Nat} {us : Int} {f : KF} {W : World} (h : TT g gs sd b us f W) : g < W.heap.size ∧ gs < W.heap.size := by
  obtain ⟨l, h1, h2⟩ := h; exact ⟨blk_lt h1.hd, blk_lt h1.sl⟩
theorem TT.low {g gs : Nat} {sd : Int} {b : Nat} {us : Int} {f : KF} {W W' : World} {m : Nat} (h : TT g gs sd b us f W) (hb : Below m W W') (h1 : g < m) (h2 : gs < m) : TT g gs sd b us f W' := by
  obtain ⟨l, k1, k2⟩ := h
  have hl := blk_lt k1.hd
  exact ⟨l, ⟨(hb.block g h1).trans k1.hd, (hb.block gs h2).trans k1.sl, k1.ne⟩, k2⟩
/-- An Op in its own block. -/
def OX (q : Nat) (d : Int) (k : ByteArray) (v : Int) (W : World) : Prop := W.heap[q]? = some (.cells #[.int .i64 d, .string k, .int .i64 v] 35 (0, 0))
theorem OX.cells {q : Nat} {d : Int} {k : ByteArray} {v : Int} {W : World} (h : OX q d k v W) : W.cell? ⟨q, 0, none⟩ = some (.int .i64 d) ∧ W.cell? ⟨q, 1, none⟩ = some (.string k) ∧ W.cell? ⟨q, 2, none⟩ = some (.int .i64 v) :=
  ⟨(blk_cell h 0).trans rfl, (blk_cell h 1).trans rfl, (blk_cell h 2).trans rfl⟩
/-- Behind a call of the table, ahead of the map's. -/
structure Mid (n0 g gs gm q : Nat) (sd : Int) (b : Nat) (us us' : Int) (f f' : KF) (dob : Int) (key : ByteArray) (val : Int) (w w3 : World) : Prop where
  t : TT g gs sd b us' f' w3
  m : MM gm b us f w3
  x0 : w3.cell? ⟨q, 0, none⟩ = some (.int .i64 dob)
  x1 : w3.cell? ⟨q, 1, none⟩ = some (.string key)
  x2 : w3.cell? ⟨q, 2, none⟩ = some (.int .i64 val)
  b : Below n0 w w3
  n : n0 ≤ gm ∧ g < gm ∧ gs < gm
def Fin (n0 g gs gm : Nat) (sd : Int) (b : Nat) (w w' : World) : Prop := ∃ us' f', TT g gs sd b us' f' w' ∧ MM gm b us' f' w' ∧ Below n0 w w'
theorem Mid.fin {n0 g gs gm q : Nat} {sd : Int} {b : Nat} {us us' : Int} {f f' : KF} {dob : Int} {key : ByteArray} {val : Int} {w w3 w4 : World} (h : Mid n0 g gs gm q sd b us us' f f' dob key val w w3) (hm : MM gm b us' f' w4) (hb : Below gm w3 w4) : Fin n0 g gs gm sd b w w4 :=
  ⟨us', f', h.t.low hb h.n.2.1 h.n.2.2, hm, h.b.trans (hb.mono h.n.1)⟩
theorem Mid.mk2 {n0 g gs gm q : Nat} {sd : Int} {b : Nat} {us us' : Int} {f f' : KF} {dob : Int} {key : ByteArray} {val : Int} {w W0 w3 : World} (hn : n0 ≤ g ∧ n0 ≤ gs ∧ g < gm ∧ gs < gm) (hq : gm < q) (hB : Below n0 w W0) (hs : n0 ≤ W0.heap.size) (hm : MM gm b us f W0) (hx : OX q dob key val W0) (ht : TT g gs sd b us' f' w3) (hf : Fr (fun q => q = g ∨ q = gs) W0.drew w3) : Mid n0 g gs gm q sd b us us' f f' dob key val w w3 := by
  have hx3 : OX q dob key val w3 := hf.blk (show W0.drew.heap[q]? = _ from hx) (fun hq => by omega)
  refine ⟨ht, hm.drew.fr hf (fun q hq => by omega), hx3.cells.1, hx3.cells.2.1, hx3.cells.2.2, ?_, by omega⟩
  exact hB.trans (((below_drew (Below.refl _ _)).mono hs).trans (hf.below (fun q hq => by omega) hs))
end Go.Proofs.Ytonafabgbkohlaa.La


namespace Go.Proofs.Ytonafabgbkohlaa.La
open Go.RowKit Go.Proofs.YtonafabgbkohlaaW.PrintWords Go.Proofs.YtonafabgbkohlaaW.PrintLast Go.Proofs.YtonafabgbkohlaaW.PrintMore Go.Proofs.Ytonafabgbkohlaa.Q
set_option linter.unusedSimpArgs false
set_option linter.unusedVariables false
theorem srt_eq : ∀ A B : List ByteArray, A.Pairwise tl → B.Pairwise tl → (∀ x, x ∈ A ↔ x ∈ B) → A = B
  | [], [], _, _, _ => rfl
  | [], b :: B, _, _, h => absurd ((h b).2 (by simp)) (by simp)
  | a :: A, [], _, _, h => absurd ((h a).1 (by simp)) (by simp)
  | a :: A, b :: B, hA, hB, h => by
    obtain ⟨a1, a2⟩ := List.pairwise_cons.1 hA
    obtain ⟨b1, b2⟩ := List.pairwise_cons.1 hB
    have e : a = b := by
      rcases List.mem_cons.1 ((h a).1 (by simp)) with e | e
      · exact e
      rcases List.mem_cons.1 ((h b).2 (by simp)) with e2 | e2
      · exact e2.symm
      exact absurd (tl_trans (b1 a e) (a1 b e2)) (tl_irr b)
    subst e
    congr 1
    refine srt_eq A B a2 b2 fun x => ⟨fun hx => ?_, fun hx => ?_⟩
    · rcases List.mem_cons.1 ((h x).1 (List.mem_cons_of_mem _ hx)) with e | e
      · subst e; exact absurd (a1 x hx) (tl_irr x)
      · exact e
    · rcases List.mem_cons.1 ((h x).2 (List.mem_cons_of_mem _ hx)) with e | e
      · subst e; exact absurd (b1 x hx) (tl_irr x)
      · exact e
theorem sortB_mem (xs : List ByteArray) (x : ByteArray) : x ∈ sortB xs ↔ x ∈ xs := by
  unfold sortB
  rw [List.mem_map]
  constructor
  · rintro ⟨y, hy, rfl⟩
    rw [(List.mergeSort_perm _ _).mem_iff, List.mem_map] at hy
    obtain ⟨z, hz, rfl⟩ := hy
    exact hz
  · intro h
    refine ⟨x.data.toList, ?_, rfl⟩
    rw [(List.mergeSort_perm _ _).mem_iff, List.mem_map]
    exact ⟨x, h, rfl⟩
theorem sortB_srt (xs : List ByteArray) (hn : xs.Nodup) : (sortB xs).Pairwise tl := by
  unfold sortB
  rw [List.pairwise_map]
  have h1 : ((xs.map fun (s : ByteArray) => s.data.toList).mergeSort fun x y => decide (x ≤ y)).Pairwise (fun x y => decide (x ≤ y) = true) :=
    List.pairwise_mergeSort (le := fun (x y : List UInt8) => decide (x ≤ y)) (fun a b c h k => decide_eq_true (List.le_trans (of_decide_eq_true h) (of_decide_eq_true k))) (fun a b => by
      by_cases h : b < a
      · rw [decide_eq_true (show b ≤ a from List.not_lt.1 fun k => List.lt_irrefl _ (List.lt_trans h k))]; simp
      · rw [decide_eq_true (show a ≤ b from List.not_lt.1 h)]; rfl) _
  have h2 : ((xs.map fun (s : ByteArray) => s.data.toList).mergeSort fun x y => decide (x ≤ y)).Nodup := by
    rw [(List.mergeSort_perm _ _).nodup_iff]
    unfold List.Nodup
    rw [List.pairwise_map]
    exact List.Pairwise.imp (fun h e => h (ba_ext e)) hn
  refine (List.Pairwise.and h1 h2).imp ?_
  rintro a b ⟨h, k⟩
  show a < b
  apply Classical.byContradiction
  intro hc
  exact k (List.le_antisymm (of_decide_eq_true h) (List.not_lt.1 hc))
theorem sl_getElem {l : List Sl} {i : Nat} (h : i < l.length) : sl l i = l[i] := by
  unfold sl rd_T52
  rw [Int.toNat_natCast, List.getD_eq_getElem?_getD, List.getElem?_eq_getElem h]; rfl
theorem keyL_mem (l : List Sl) (x : ByteArray) : x ∈ keyL l ↔ ∃ v, Has l x v := by
  unfold keyL
  rw [List.mem_map]
  constructor
  · rintro ⟨s, hs, rfl⟩
    obtain ⟨h1, h2⟩ := List.mem_filter.1 hs
    obtain ⟨i, hi, rfl⟩ := List.mem_iff_getElem.1 h1
    exact ⟨_, i, hi, by rw [sl_getElem hi]; exact h2, by rw [sl_getElem hi], rfl⟩
  · rintro ⟨v, i, hi, h1, h2, h3⟩
    rw [sl_getElem hi] at h1 h2
    exact ⟨l[i], List.mem_filter.2 ⟨List.getElem_mem hi, h1⟩, h2⟩
theorem keyL_nodup {hm : ByteArray → Nat} {l : List Sl} (I : Inv hm l) : (keyL l).Nodup := by
  unfold keyL List.Nodup
  rw [List.pairwise_map, List.pairwise_filter, List.pairwise_iff_getElem]
  intro i j hi hj hlt h1 h2 e
  rw [← sl_getElem hi] at h1 e
  rw [← sl_getElem hj] at h2 e
  have := I.uniq i j hi hj h1 h2 e
  omega
theorem keys_same {sd : Int} {b : Nat} {l : List Sl} {us us2 : Int} {f : ByteArray → Option Int} {L : List Pr} (h : TF sd b l us f) (k : MS L us2 f) : sortB (keyL l) = L.map (fun p => p.f0) := by
  refine srt_eq _ _ (sortB_srt _ (keyL_nodup h.inv)) ?_ fun x => ?_
  · rw [List.pairwise_map]; exact k.srt
  · rw [sortB_mem, keyL_mem, List.mem_map]
    constructor
    · rintro ⟨v, hv⟩
      exact ⟨_, (k.has x v).1 ((h.has x v).1 hv), rfl⟩
    · rintro ⟨⟨y, v⟩, hv, rfl⟩
      exact ⟨v, (h.has y v).2 ((k.has y v).2 hv)⟩
end Go.Proofs.Ytonafabgbkohlaa.La


namespace Go.Proofs.Ytonafabgbkohlaa.La
open Go.RowKit Go.Proofs.YtonafabgbkohlaaW.PrintWords Go.Proofs.YtonafabgbkohlaaW.PrintLast Go.Proofs.YtonafabgbkohlaaW.PrintMore Go.Proofs.Ytonafabgbkohlaa.Q
set_option linter.unusedSimpArgs false
set_option linter.unusedVariables false
def KeysOf (W : World) (f : FuncId) (g : Nat) (ks : List ByteArray) : Prop := Calls Try.prog f #[.pointer (some ⟨g, 0, none⟩)] W fun e w' => ∃ v, e = .returned v ∧ Kd.R Kd.string 9 w' W.heap.size (fun _ => True) v ks ∧ Below W.heap.size W w'
theorem both_keys {g gs gm : Nat} {sd : Int} {b : Nat} {us us2 : Int} {f : KF} {w : World} (ht : TT g gs sd b us f w) (hm : MM gm b us2 f w) : ∃ ks : List ByteArray, ks.length ≤ 256 ∧ KeysOf w 17 g ks ∧ ∀ w3, Below w.heap.size w w3 → KeysOf w3 18 gm ks := by
  obtain ⟨L, hM, hS, hl⟩ := hm.len
  obtain ⟨l, h1, h2⟩ := ht
  refine ⟨L.map (fun p : Pr => p.f0), by rw [List.length_map]; exact hl, ?_, fun w3 hb => map_keys (hM.below hb) (by omega)⟩
  have := robin_Table_Keys.calls g gs sd (b : Int) us l w h1 (by have := h2.sz; omega)
  rw [keys_same h2 hS] at this
  exact this
theorem texts_l0 (ks : List ByteArray) (hl : ks.length ≤ 1000000) : ∀ (k i : Nat), ks.length - i < k → sandglassref05_Texts.l0 k ks ks (i : Int) = some true
  | 0, i, h => absurd h (Nat.not_lt_zero _)
  | k + 1, i, h => by
    unfold sandglassref05_Texts.l0
    by_cases c : (i : Int) < (ks.length : Int)
    · rw [if_pos c, if_pos (by omega), if_pos c, if_pos rfl, show wrap64 ((i : Int) + 1) = ((i + 1 : Nat) : Int) by unfold wrap64; omega]
      exact texts_l0 ks hl k (i + 1) (by omega)
    · rw [if_neg c]
theorem texts_same (ks : List ByteArray) (hl : ks.length ≤ 1000000) : sandglassref05_Texts.f (ks.length + 1) ks ks = some true := by
  unfold sandglassref05_Texts.f
  rw [if_pos rfl]
  exact texts_l0 ks hl _ 0 (by omega)
end Go.Proofs.Ytonafabgbkohlaa.La


namespace Go.Proofs.Ytonafabgbkohlaa.La
open Go.RowKit Go.Proofs.YtonafabgbkohlaaW.PrintWords Go.Proofs.YtonafabgbkohlaaW.PrintLast Go.Proofs.YtonafabgbkohlaaW.PrintMore Go.Proofs.Ytonafabgbkohlaa.Q
set_option linter.unusedSimpArgs false
set_option linter.unusedVariables false
/-- How many of the first n slots p holds of. -/
def ct (p : Nat → Bool) : Nat → Nat
  | 0 => 0
  | n + 1 => ct p n + (if p n = true then 1 else 0)
theorem ct_le {p q : Nat → Bool} : ∀ n, (∀ i, i < n → p i = true → q i = true) → ct p n ≤ ct q n
  | 0, _ => Nat.le_refl _
  | n + 1, h => by
    have ih := ct_le n (fun i hi => h i (by omega))
    unfold ct
    by_cases c : p n = true
    · rw [if_pos c, if_pos (h n (by omega) c)]; omega
    · rw [if_neg c]; omega
theorem ct_cut (p : Nat → Bool) (t : Nat) : ∀ n, t ≤ n → ct (fun i => p i && decide (i < t)) n = ct p t
  | 0, h => by rw [show t = 0 by omega]; rfl
  | n + 1, h => by
    by_cases c : t = n + 1
    · subst c
      refine Nat.le_antisymm (ct_le _ fun i _ hi => ?_) (ct_le _ fun i hi hp => ?_)
      · simp only [Bool.and_eq_true] at hi; exact hi.1
      · simp only [Bool.and_eq_true]; exact ⟨hp, decide_eq_true hi⟩
    · show ct _ n + _ = _
      rw [ct_cut p t n (by omega), if_neg (by simp; intro _; omega)]; rfl
theorem ct_cnt : ∀ l : List Sl, ∀ n, n ≤ l.length → ct (fun i => (sl l i).f0) n = cnt (l.take n)
  | l, 0, _ => by simp [ct, cnt]
  | l, n + 1, h => by
    rw [List.take_succ_eq_append_getElem (by omega)]
    have ha : ∀ A B : List Sl, cnt (A ++ B) = cnt A + cnt B := fun A B => by
      induction A with
      | nil => simp [cnt]
      | cons s A ih => show bn s + cnt (A ++ B) = (bn s + cnt A) + cnt B; rw [ih]; omega
    rw [ha]
    show ct _ n + _ = _
    rw [ct_cnt l n (by omega), ← sl_getElem (by omega)]
    simp [cnt, bn]
/-- Keys by their homes, counted over the slots. -/
theorem ct_keys (g : ByteArray → Bool) : ∀ l : List Sl, ct (fun i => (sl l i).f0 && g (sl l i).f1) l.length = (keyL l).countP g := by
  intro l
  have key : ∀ n, n ≤ l.length → ct (fun i => (sl l i).f0 && g (sl l i).f1) n = (keyL (l.take n)).countP g := by
    intro n
    induction n with
    | zero => intro _; simp [ct, keyL]
    | succ n ih =>
      intro h
      show ct _ n + _ = _
      rw [ih (by omega), List.take_succ_eq_append_getElem (by omega), ← sl_getElem (by omega)]
      unfold keyL
      rw [List.filter_append, List.map_append, List.countP_append]
      cases e : (sl l n).f0 with
      | false => simp [e]
      | true => cases e2 : g (sl l n).f1 <;> simp [e, e2]
  have := key l.length (Nat.le_refl _)
  rwa [List.take_length] at this
/-- A table seen from its last slot on. -/
structure Lin (hm : ByteArray → Nat) (N : Nat) (l : List Sl) : Prop where
  n0 : 0 < N
  len : l.length = N
  inv : Inv hm l
  hml : ∀ k, hm k < N
variable {hm : ByteArray → Nat} {N : Nat} {l l1 l2 : List Sl}
/-- On a key's way from its home all is used. -/
theorem Lin.way (L : Lin hm N l) {i d : Nat} (hi : i < N) (hu : (sl l i).f0 = true) (hd : (sl l i).f3 = (d : Int)) (hh : (hm (sl l i).f1 + d) % N = i) : ∀ e, e ≤ d → (sl l ((hm (sl l i).f1 + (d - e)) % N)).f0 = true := by
  intro e he
  have B := back (l := l) (by rw [L.len]; exact L.n0) L.inv.prev (hm (sl l i).f1) d (by rw [L.len, hh]; exact hu) (by rw [L.len, hh, hd]; exact Int.le_refl _) e he
  rw [L.len] at B
  exact B.1
/-- Where the last slot is not used no key goes past it. -/
theorem Lin.at (L : Lin hm N l) (hl : (sl l (N - 1)).f0 = false) {i : Nat} (hi : i < N) (hu : (sl l i).f0 = true) : (sl l i).f3 = ((i - hm (sl l i).f1 : Nat) : Int) ∧ hm (sl l i).f1 ≤ i := by
  obtain ⟨d, h1, h2, h3⟩ := L.inv.pos i (by rw [L.len]; exact hi) hu
  rw [L.len] at h2 h3
  have hh := L.hml (sl l i).f1
  have hdi : d ≤ i := by
    apply Classical.byContradiction
    intro hc
    have W := L.way hi hu h1 h3 (i + 1) (by omega)
    have e : (hm (sl l i).f1 + (d - (i + 1))) % N = N - 1 := by
      have hn := L.n0
      by_cases c : hm (sl l i).f1 + d < N
      · rw [Nat.mod_eq_of_lt c] at h3; omega
      · rw [Nat.mod_eq_sub_mod (by omega), Nat.mod_eq_of_lt (by omega)] at h3
        rw [Nat.mod_eq_of_lt (by omega)]; omega
    rw [e, hl] at W; cases W
  have e : hm (sl l i).f1 + d = i := by
    by_cases c : hm (sl l i).f1 + d < N
    · rwa [Nat.mod_eq_of_lt c] at h3
    · rw [Nat.mod_eq_sub_mod (by omega), Nat.mod_eq_of_lt (by omega)] at h3; omega
  exact ⟨by rw [h1]; omega, by omega⟩
/-- Past a slot that is not used goes no key. -/
theorem Lin.stop (L : Lin hm N l) {t : Nat} (ht : t < N) (hu : (sl l t).f0 = false) {p : Nat} (hp : p < N) (h0 : (sl l p).f0 = true) (hh : hm (sl l p).f1 ≤ t) : p < t := by
  obtain ⟨d, h1, h2, h3⟩ := L.inv.pos p (by rw [L.len]; exact hp) h0
  rw [L.len] at h2 h3
  have hl := L.hml (sl l p).f1
  apply Classical.byContradiction
  intro hc
  by_cases c : t ≤ hm (sl l p).f1 + d
  · have W := L.way hp h0 h1 h3 (d - (t - hm (sl l p).f1)) (by omega)
    have e : (hm (sl l p).f1 + (d - (d - (t - hm (sl l p).f1)))) % N = t := by
      rw [show hm (sl l p).f1 + (d - (d - (t - hm (sl l p).f1))) = t by omega, Nat.mod_eq_of_lt ht]
    rw [e, hu] at W; cases W
  · rw [Nat.mod_eq_of_lt (by omega)] at h3; omega
def U (l : List Sl) (t : Nat) : Nat := ct (fun i => (sl l i).f0) t
def K (hm : ByteArray → Nat) (l : List Sl) (m : Nat) : Nat := ct (fun i => (sl l i).f0 && decide (hm (sl l i).f1 < m)) l.length
theorem U_succ (l : List Sl) (t : Nat) : U l (t + 1) = U l t + (if (sl l t).f0 = true then 1 else 0) := rfl
theorem Lin.stopK (L : Lin hm N l) {t : Nat} (ht : t < N) (hu : (sl l t).f0 = false) : K hm l (t + 1) ≤ U l t := by
  unfold K U
  rw [← ct_cut _ t l.length (by rw [L.len]; omega)]
  refine ct_le _ fun i hi h => ?_
  simp only [Bool.and_eq_true, decide_eq_true_eq] at h ⊢
  rw [L.len] at hi
  exact ⟨h.1, L.stop ht hu hi h.1 (by omega)⟩
theorem Lin.upK (L : Lin hm N l) (hl : (sl l (N - 1)).f0 = false) {t : Nat} (ht : t < N) : U l (t + 1) ≤ K hm l (t + 1) := by
  unfold K U
  rw [← ct_cut _ (t + 1) l.length (by rw [L.len]; omega)]
  refine ct_le _ fun i hi h => ?_
  simp only [Bool.and_eq_true, decide_eq_true_eq] at h ⊢
  rw [L.len] at hi
  have := (L.at hl hi h.1).2
  exact ⟨h.1, by omega⟩
theorem K_mono (l : List Sl) {m n : Nat} (h : m ≤ n) : K hm l m ≤ K hm l n := by
  unfold K
  refine ct_le _ fun i hi h => ?_
  simp only [Bool.and_eq_true, decide_eq_true_eq] at h ⊢
  exact ⟨h.1, by omega⟩
theorem K_same (hk : ∀ m, (keyL l1).countP (fun k => decide (hm k < m)) = (keyL l2).countP (fun k => decide (hm k < m))) (m : Nat) : K hm l1 m = K hm l2 m := by
  unfold K
  rw [ct_keys (fun k => decide (hm k < m)) l1, ct_keys (fun k => decide (hm k < m)) l2, hk m]
/-- With its last slot not used a table uses no more of the first slots than any other. -/
theorem U_le (L1 : Lin hm N l1) (L2 : Lin hm N l2) (hl : (sl l1 (N - 1)).f0 = false) (hK : ∀ m, K hm l1 m = K hm l2 m) : ∀ t, t ≤ N → U l1 t ≤ U l2 t
  | 0, _ => Nat.le_refl _
  | t + 1, h => by
    have ih := U_le L1 L2 hl hK t (by omega)
    by_cases c : (sl l2 t).f0 = true
    · rw [U_succ, U_succ, if_pos c]
      split <;> omega
    · have c2 : (sl l2 t).f0 = false := by cases e : (sl l2 t).f0; rfl; exact absurd e c
      have h1 := L1.upK hl (show t < N by omega)
      have h2 := L2.stopK (show t < N by omega) c2
      rw [hK] at h1
      have h3 : U l2 (t + 1) = U l2 t := by rw [U_succ, if_neg c]; omega
      omega
theorem last_same (L1 : Lin hm N l1) (L2 : Lin hm N l2) (hl : (sl l1 (N - 1)).f0 = false) (hK : ∀ m, K hm l1 m = K hm l2 m) (hc : U l1 N = U l2 N) : (sl l2 (N - 1)).f0 = false := by
  cases e : (sl l2 (N - 1)).f0 with
  | false => rfl
  | true =>
    have hn := L1.n0
    have h := U_le L1 L2 hl hK (N - 1) (by omega)
    have e1 := U_succ l1 (N - 1)
    have e2 := U_succ l2 (N - 1)
    rw [show N - 1 + 1 = N by omega] at e1 e2
    rw [hl] at e1
    rw [e] at e2
    simp at e1 e2
    omega
theorem U_same (L1 : Lin hm N l1) (L2 : Lin hm N l2) (hl1 : (sl l1 (N - 1)).f0 = false) (hl2 : (sl l2 (N - 1)).f0 = false) (hK : ∀ m, K hm l1 m = K hm l2 m) (t : Nat) (ht : t ≤ N) : U l1 t = U l2 t :=
  Nat.le_antisymm (U_le L1 L2 hl1 hK t ht) (U_le L2 L1 hl2 (fun m => (hK m).symm) t ht)
theorem used_same (L1 : Lin hm N l1) (L2 : Lin hm N l2) (hl1 : (sl l1 (N - 1)).f0 = false) (hl2 : (sl l2 (N - 1)).f0 = false) (hK : ∀ m, K hm l1 m = K hm l2 m) (t : Nat) (ht : t < N) : (sl l1 t).f0 = (sl l2 t).f0 := by
  have h1 := U_same L1 L2 hl1 hl2 hK t (by omega)
  have h2 := U_same L1 L2 hl1 hl2 hK (t + 1) (by omega)
  rw [U_succ, U_succ, h1] at h2
  cases e1 : (sl l1 t).f0 <;> cases e2 : (sl l2 t).f0 <;> rw [e1, e2] at h2 <;> simp at h2 <;> rfl
/-- Homes rise from slot to slot. -/
theorem Lin.rise (L : Lin hm N l) (hl : (sl l (N - 1)).f0 = false) {p : Nat} : ∀ q, p ≤ q → q < N → (sl l p).f0 = true → (if (sl l q).f0 = true then hm (sl l q).f1 else q + 1) ≥ hm (sl l p).f1 := by
  intro q
  induction q with
  | zero =>
    intro h1 h2 h3
    obtain rfl : p = 0 := by omega
    rw [if_pos h3]
    exact Nat.le_refl _
  | succ q ih =>
    intro h1 h2 h3
    by_cases c : p = q + 1
    · subst c; rw [if_pos h3]; exact Nat.le_refl _
    have I := ih (by omega) (by omega) h3
    have hpp := (L.at hl (show p < N by omega) h3).2
    by_cases u : (sl l (q + 1)).f0 = true
    · rw [if_pos u]
      obtain ⟨a1, a2⟩ := L.at hl h2 u
      by_cases z : hm (sl l (q + 1)).f1 = q + 1
      · omega
      · have P := L.inv.prev q (by rw [L.len]; omega)
        rw [L.len, Nat.mod_eq_of_lt h2] at P
        obtain ⟨p1, p2⟩ := P u (by rw [a1]; omega)
        rw [if_pos p1] at I
        obtain ⟨b1, b2⟩ := L.at hl (show q < N by omega) p1
        rw [a1, b1] at p2
        omega
    · rw [if_neg u]; omega
theorem Lin.homeK (L : Lin hm N l) (hl : (sl l (N - 1)).f0 = false) {t : Nat} (ht : t < N) (hu : (sl l t).f0 = true) : K hm l (hm (sl l t).f1) < U l (t + 1) ∧ U l (t + 1) ≤ K hm l (hm (sl l t).f1 + 1) := by
  constructor
  · have : K hm l (hm (sl l t).f1) ≤ U l t := by
      unfold K U
      rw [← ct_cut _ t l.length (by rw [L.len]; omega)]
      refine ct_le _ fun i hi h => ?_
      simp only [Bool.and_eq_true, decide_eq_true_eq] at h ⊢
      rw [L.len] at hi
      refine ⟨h.1, ?_⟩
      apply Classical.byContradiction
      intro hc
      have := L.rise hl (p := t) i (by omega) hi hu
      rw [if_pos h.1] at this
      omega
    rw [U_succ, if_pos hu]; omega
  · unfold K U
    rw [← ct_cut _ (t + 1) l.length (by rw [L.len]; omega)]
    refine ct_le _ fun i hi h => ?_
    simp only [Bool.and_eq_true, decide_eq_true_eq] at h ⊢
    rw [L.len] at hi
    refine ⟨h.1, ?_⟩
    have := L.rise hl (p := i) t (by omega) ht h.1
    rw [if_pos hu] at this
    omega
theorem dist_same (L1 : Lin hm N l1) (L2 : Lin hm N l2) (hl1 : (sl l1 (N - 1)).f0 = false) (hl2 : (sl l2 (N - 1)).f0 = false) (hK : ∀ m, K hm l1 m = K hm l2 m) (t : Nat) (ht : t < N) : (sl l1 t).f0 = (sl l2 t).f0 ∧ (sl l1 t).f3 = (sl l2 t).f3 := by
  have u := used_same L1 L2 hl1 hl2 hK t ht
  refine ⟨u, ?_⟩
  cases e1 : (sl l1 t).f0 with
  | false =>
    rw [L1.inv.zero t (by rw [L1.len]; exact ht) e1, L2.inv.zero t (by rw [L2.len]; exact ht) (u ▸ e1)]
  | true =>
    have e2 : (sl l2 t).f0 = true := u ▸ e1
    obtain ⟨a1, a2⟩ := L1.homeK hl1 ht e1
    obtain ⟨b1, b2⟩ := L2.homeK hl2 ht e2
    rw [← hK, ← U_same L1 L2 hl1 hl2 hK (t + 1) (by omega)] at b1 b2
    have h12 : hm (sl l1 t).f1 = hm (sl l2 t).f1 := by
      rcases Nat.lt_trichotomy (hm (sl l1 t).f1) (hm (sl l2 t).f1) with h | h | h
      · have := K_mono (hm := hm) l1 (show hm (sl l1 t).f1 + 1 ≤ hm (sl l2 t).f1 by omega); omega
      · exact h
      · have := K_mono (hm := hm) l1 (show hm (sl l2 t).f1 + 1 ≤ hm (sl l1 t).f1 by omega); omega
    rw [(L1.at hl1 ht e1).1, (L2.at hl2 ht e2).1, h12]
end Go.Proofs.Ytonafabgbkohlaa.La


namespace Go.Proofs.Ytonafabgbkohlaa.La
open Go.RowKit Go.Proofs.YtonafabgbkohlaaW.PrintWords Go.Proofs.YtonafabgbkohlaaW.PrintLast Go.Proofs.YtonafabgbkohlaaW.PrintMore Go.Proofs.Ytonafabgbkohlaa.Q
set_option linter.unusedSimpArgs false
set_option linter.unusedVariables false
theorem cnt_app : ∀ A B : List Sl, cnt (A ++ B) = cnt A + cnt B
  | [], B => by simp [cnt]
  | s :: A, B => by
    show bn s + cnt (A ++ B) = (bn s + cnt A) + cnt B
    rw [cnt_app A B]; omega
def rot (l : List Sl) (o : Nat) : List Sl := l.drop o ++ l.take o
theorem rot_len (l : List Sl) (o : Nat) (h : o ≤ l.length) : (rot l o).length = l.length := by
  unfold rot; rw [List.length_append, List.length_drop, List.length_take]; omega
theorem rot_sl {l : List Sl} {o t : Nat} (ho : o ≤ l.length) (ht : t < l.length) : sl (rot l o) t = sl l ((o + t) % l.length) := by
  have hm : (o + t) % l.length < l.length := Nat.mod_lt _ (by omega)
  rw [sl_getElem (by rw [rot_len l o ho]; exact ht), sl_getElem hm]
  unfold rot
  by_cases c : o + t < l.length
  · rw [List.getElem_append_left (by rw [List.length_drop]; omega), List.getElem_drop]
    congr 1
    rw [Nat.mod_eq_of_lt c]
  · rw [List.getElem_append_right (by rw [List.length_drop]; omega), List.getElem_take]
    congr 1
    rw [List.length_drop, Nat.mod_eq_sub_mod (by omega), Nat.mod_eq_of_lt (by omega)]
    omega
theorem rot_cnt (l : List Sl) (o : Nat) : cnt (rot l o) = cnt l := by
  unfold rot
  have h : cnt l = cnt (l.take o ++ l.drop o) := by rw [List.take_append_drop]
  rw [h, cnt_app, cnt_app]; omega
theorem rot_keys (l : List Sl) (o : Nat) : (keyL (rot l o)).Perm (keyL l) := by
  have ha : ∀ A B : List Sl, keyL (A ++ B) = keyL A ++ keyL B := fun A B => by unfold keyL; rw [List.filter_append, List.map_append]
  unfold rot
  have h : keyL l = keyL (l.take o ++ l.drop o) := by rw [List.take_append_drop]
  rw [h, ha, ha]
  exact List.perm_append_comm
def rhm (hm : ByteArray → Nat) (N o : Nat) : ByteArray → Nat := fun k => (hm k + (N - o)) % N
theorem rot_inv {hm : ByteArray → Nat} {l : List Sl} {o : Nat} (h0 : 0 < l.length) (ho : o ≤ l.length) (I : Inv hm l) : Inv (rhm hm l.length o) (rot l o) := by
  obtain ⟨N, hN⟩ : ∃ N, l.length = N := ⟨_, rfl⟩
  have hr := rot_len l o ho
  have S : ∀ t, t < N → sl (rot l o) t = sl l ((o + t) % N) := fun t ht => by rw [← hN] at ht ⊢; exact rot_sl ho ht
  rw [hN] at hr h0 ho ⊢
  have M : ∀ x, x % N < N := fun x => Nat.mod_lt _ h0
  refine ⟨?_, ?_, ?_, ?_⟩
  · intro i hi hu
    rw [hr] at hi ⊢
    rw [S i hi] at hu ⊢
    obtain ⟨d, h1, h2, h3⟩ := I.pos ((o + i) % N) (by rw [hN]; exact M _) hu
    rw [hN] at h2 h3
    refine ⟨d, h1, h2, ?_⟩
    unfold rhm
    rw [Nat.mod_add_mod, show hm (sl l ((o + i) % N)).f1 + (N - o) + d = (hm (sl l ((o + i) % N)).f1 + d) + (N - o) by omega, ← Nat.mod_add_mod, h3, Nat.mod_add_mod, show o + i + (N - o) = i + N by omega, Nat.add_mod_right, Nat.mod_eq_of_lt hi]
  · intro i hi hu hd
    rw [hr] at hi hu hd ⊢
    have e : (o + (i + 1) % N) % N = ((o + i) % N + 1) % N := by rw [Nat.add_mod_mod, Nat.mod_add_mod, Nat.add_assoc]
    rw [S _ (M _), e] at hu hd ⊢
    rw [S i hi]
    have P := I.prev ((o + i) % N) (by rw [hN]; exact M _)
    rw [hN] at P
    exact P hu hd
  · intro i j hi hj hu hv e
    rw [hr] at hi hj
    rw [S i hi] at hu e
    rw [S j hj] at hv e
    have := I.uniq _ _ (by rw [hN]; exact M _) (by rw [hN]; exact M _) hu hv e
    have A : ∀ x, x < N → ((o + x) % N + (N - o)) % N = x := fun x hx => by
      rw [Nat.mod_add_mod, show o + x + (N - o) = x + N by omega, Nat.add_mod_right, Nat.mod_eq_of_lt hx]
    rw [← A i hi, ← A j hj, this]
  · intro i hi hu
    rw [hr] at hi
    rw [S i hi] at hu ⊢
    exact I.zero _ (by rw [hN]; exact M _) hu
theorem keyL_cnt : ∀ l : List Sl, (keyL l).length = cnt l
  | [] => by simp [keyL, cnt]
  | s :: l => by
    have ih := keyL_cnt l
    unfold keyL at ih ⊢
    show _ = bn s + cnt l
    rw [← ih]
    unfold bn
    cases e : s.f0 <;> simp [e] <;> omega
theorem sortB_perm (xs : List ByteArray) : (sortB xs).Perm xs := by
  unfold sortB
  have h := (List.mergeSort_perm (xs.map fun (s : ByteArray) => s.data.toList) (fun x y => decide (x ≤ y))).map (fun l : List UInt8 => (⟨l.toArray⟩ : ByteArray))
  rw [List.map_map] at h
  have e : xs.map ((fun l : List UInt8 => (⟨l.toArray⟩ : ByteArray)) ∘ fun (s : ByteArray) => s.data.toList) = xs := by
    have : ((fun l : List UInt8 => (⟨l.toArray⟩ : ByteArray)) ∘ fun (s : ByteArray) => s.data.toList) = id := by
      funext s; cases s; rfl
    rw [this, List.map_id]
  rw [e] at h
  exact h
section
variable {sd : Int} {b : Nat} {l1 l2 : List Sl} {u1 u2 : Int} {f1 f2 : ByteArray → Option Int}
theorem sorted_same (T1 : TF sd b l1 u1 f1) (T2 : TF sd b l2 u2 f2) (hd : ∀ k, (∃ v, f1 k = some v) ↔ ∃ v, f2 k = some v) : sortB (keyL l1) = sortB (keyL l2) := by
  refine srt_eq _ _ (sortB_srt _ (keyL_nodup T1.inv)) (sortB_srt _ (keyL_nodup T2.inv)) fun x => ?_
  rw [sortB_mem, sortB_mem, keyL_mem, keyL_mem]
  constructor
  · rintro ⟨v, hv⟩
    obtain ⟨v2, h2⟩ := (hd x).1 ⟨v, (T1.has x v).1 hv⟩
    exact ⟨v2, (T2.has x v2).2 h2⟩
  · rintro ⟨v, hv⟩
    obtain ⟨v2, h2⟩ := (hd x).2 ⟨v, (T2.has x v).1 hv⟩
    exact ⟨v2, (T1.has x v2).2 h2⟩
theorem turned (T1 : TF sd b l1 u1 f1) (T2 : TF sd b l2 u2 f2) (hd : ∀ k, (∃ v, f1 k = some v) ↔ ∃ v, f2 k = some v) (hn : u1 < (l1.length : Int)) : u1 = u2 ∧ ∀ t, t < l1.length → (sl l1 t).f0 = (sl l2 t).f0 ∧ (sl l1 t).f3 = (sl l2 t).f3 := by
  have hp : (keyL l1).Perm (keyL l2) := ((sortB_perm (keyL l1)).symm.trans (by rw [sorted_same T1 T2 hd])).trans (sortB_perm (keyL l2))
  have hc : cnt l1 = cnt l2 := by rw [← keyL_cnt, ← keyL_cnt]; exact hp.length_eq
  refine ⟨by rw [T1.us, T2.us, hc], ?_⟩
  obtain ⟨e, he, hu⟩ := cnt_free l1 (by have := T1.us; omega)
  obtain ⟨N, hN⟩ : ∃ N, l1.length = N := ⟨_, rfl⟩
  have hN2 : l2.length = N := by rw [T2.len, ← T1.len, hN]
  have h2N : 2 ≤ N := by have := T1.sz; omega
  rw [hN] at he
  have ho1 : e + 1 ≤ l1.length := by omega
  have ho2 : e + 1 ≤ l2.length := by omega
  have L1 : Lin (rhm (homeN sd b) N (e + 1)) N (rot l1 (e + 1)) := ⟨by omega, by rw [rot_len l1 _ ho1, hN], by have := rot_inv (by omega) ho1 T1.inv; rwa [hN] at this, fun k => Nat.mod_lt _ (by omega)⟩
  have L2 : Lin (rhm (homeN sd b) N (e + 1)) N (rot l2 (e + 1)) := ⟨by omega, by rw [rot_len l2 _ ho2, hN2], by have := rot_inv (by omega) ho2 T2.inv; rwa [hN2] at this, fun k => Nat.mod_lt _ (by omega)⟩
  have hK : ∀ m, K (rhm (homeN sd b) N (e + 1)) (rot l1 (e + 1)) m = K (rhm (homeN sd b) N (e + 1)) (rot l2 (e + 1)) m :=
    K_same fun m => (((rot_keys l1 (e + 1)).trans hp).trans (rot_keys l2 (e + 1)).symm).countP_eq _
  have hl1 : (sl (rot l1 (e + 1)) (N - 1)).f0 = false := by
    rw [rot_sl ho1 (by omega), hN, show e + 1 + (N - 1) = e + N by omega, Nat.add_mod_right, Nat.mod_eq_of_lt he, hu]
  have hU : U (rot l1 (e + 1)) N = U (rot l2 (e + 1)) N := by
    unfold U
    rw [ct_cnt _ _ (by rw [L1.len]; exact Nat.le_refl _), ct_cnt _ _ (by rw [L2.len]; exact Nat.le_refl _), List.take_of_length_le (by rw [L1.len]; exact Nat.le_refl _), List.take_of_length_le (by rw [L2.len]; exact Nat.le_refl _), rot_cnt, rot_cnt, hc]
  have hl2 := last_same L1 L2 hl1 hK hU
  intro t ht
  rw [hN] at ht
  have D := dist_same L1 L2 hl1 hl2 hK ((t + (N - (e + 1))) % N) (Nat.mod_lt _ (by omega))
  rw [rot_sl ho1 (by rw [hN]; exact Nat.mod_lt _ (by omega)), rot_sl ho2 (by rw [hN2]; exact Nat.mod_lt _ (by omega)), hN, hN2, Nat.add_mod_mod, show e + 1 + (t + (N - (e + 1))) = t + N by omega, Nat.add_mod_right, Nat.mod_eq_of_lt ht] at D
  exact D
end
end Go.Proofs.Ytonafabgbkohlaa.La


namespace Go.Proofs.Ytonafabgbkohlaa.La
open Go.RowKit Go.Proofs.Ytonafabgbkohlaa.Zip Go.Proofs.YtonafabgbkohlaaW.PrintWords Go.Proofs.YtonafabgbkohlaaW.PrintLast Go.Proofs.YtonafabgbkohlaaW.PrintMore Go.Proofs.Ytonafabgbkohlaa.Q
set_option linter.unusedSimpArgs false
set_option linter.unusedVariables false
def kAt (l : List ByteArray) (j : Nat) : ByteArray := rdOf ByteArray.empty l (j : Int)
/-- The table has just the first i keys that may be, by the order S. -/
def Dom (l : List ByteArray) (S : Nat → Nat) (i : Nat) (f : KF) : Prop := ∀ k, (∃ v, f k = some v) ↔ (1 ≤ k.size ∧ k.size ≤ 33 ∧ ∃ j, j < i ∧ kAt l (S j) = k)
theorem Dom.zero (l : List ByteArray) (S : Nat → Nat) : Dom l S 0 (fun _ => none) := fun k => ⟨fun ⟨v, h⟩ => (nomatch h), fun ⟨_, _, j, h, _⟩ => absurd h (Nat.not_lt_zero _)⟩
theorem Dom.put {l : List ByteArray} {S : Nat → Nat} {i b : Nat} {us us' e v : Int} {f f' : KF} (h : Dom l S i f) (hu : us ≠ 2 ^ b) (hp : putF b f us (kAt l (S i)) v = (e, us', f')) : Dom l S (i + 1) f' ∧ us' ≤ us + 1 := by
  unfold putF at hp
  by_cases hb : (kAt l (S i)).size = 0 ∨ (kAt l (S i)).size > 33
  · rw [if_pos hb] at hp; cases hp
    refine ⟨fun k => ?_, by omega⟩
    rw [h k]
    constructor
    · rintro ⟨h1, h2, j, h3, h4⟩; exact ⟨h1, h2, j, by omega, h4⟩
    · rintro ⟨h1, h2, j, h3, h4⟩
      by_cases c : j = i
      · subst c; rw [h4] at hb; omega
      · exact ⟨h1, h2, j, by omega, h4⟩
  · rw [if_neg hb] at hp
    have key : f' = upd f (kAt l (S i)) (some v) ∧ us' ≤ us + 1 := by
      cases e2 : f (kAt l (S i)) with
      | some _ => rw [e2] at hp; cases hp; exact ⟨rfl, by omega⟩
      | none => rw [e2] at hp; simp only [if_neg hu] at hp; cases hp; exact ⟨rfl, by omega⟩
    obtain ⟨rfl, hu2⟩ := key
    refine ⟨fun k => ?_, hu2⟩
    unfold upd
    by_cases c : k = kAt l (S i)
    · rw [if_pos c]
      exact ⟨fun _ => ⟨by rw [c]; omega, by rw [c]; omega, i, by omega, c.symm⟩, fun _ => ⟨v, rfl⟩⟩
    · rw [if_neg c, h k]
      constructor
      · rintro ⟨h1, h2, j, h3, h4⟩; exact ⟨h1, h2, j, by omega, h4⟩
      · rintro ⟨h1, h2, j, h3, h4⟩
        by_cases c2 : j = i
        · subst c2; exact absurd h4.symm c
        · exact ⟨h1, h2, j, by omega, h4⟩
theorem Dom.turn {l : List ByteArray} {f f' : KF} (h : Dom l (fun j => j) l.length f) (h' : Dom l (fun j => l.length - 1 - j) l.length f') (k : ByteArray) : (∃ v, f k = some v) ↔ ∃ v, f' k = some v := by
  rw [h k, h' k]
  constructor
  · rintro ⟨h1, h2, j, h3, h4⟩
    exact ⟨h1, h2, l.length - 1 - j, by omega, by rw [← h4]; show kAt l (l.length - 1 - (l.length - 1 - j)) = kAt l j; rw [show l.length - 1 - (l.length - 1 - j) = j by omega]⟩
  · rintro ⟨h1, h2, j, h3, h4⟩
    exact ⟨h1, h2, l.length - 1 - j, by omega, by rw [← h4]⟩
set_option maxHeartbeats 2000000 in
theorem tt_put_any {g gs : Nat} {sd : Int} {b : Nat} {us : Int} {f : KF} {w : World} (h : TT g gs sd b us f w) (key : ByteArray) (v : Int) {e0 us' : Int} {f' : KF} (hp : putF b f us key v = (e0, us', f')) :
    Calls Try.prog 21 #[.pointer (some ⟨g, 0, none⟩), .string key, .int .i64 v] w fun e w' => e = .returned (.int .i64 e0) ∧ TT g gs sd b us' f' w' ∧ Fr (fun q => q = g ∨ q = gs) w w' := by
  by_cases hk : key.size ≤ 33
  · exact tt_put h key v (by omega) hp
  · unfold putF at hp
    rw [if_pos (Or.inr (by omega))] at hp; cases hp
    have HT := Aside0.mk h
    have ze := len0 (s := key)
    rw [decide_eq_false (by omega)] at ze
    have d2 : decide ((33 : Int) < (key.size : Int)) = true := decide_eq_true (by omega)
    clear h hk
    go_enter Try.func21, Try.ntmps21
    go_wp2
    go_ret
    exact ⟨rfl, HT.out, Fr.refl _ _⟩
theorem tab_keys {g gs : Nat} {sd : Int} {b : Nat} {us : Int} {f : KF} {l : List Sl} {w : World} (h1 : Tab g gs sd (b : Int) l us w) (h2 : TF sd b l us f) : KeysOf w 17 g (sortB (keyL l)) :=
  robin_Table_Keys.calls g gs sd (b : Int) us l w h1 (by have := h2.sz; omega)
theorem sorted_len {sd : Int} {b : Nat} {us : Int} {f : KF} {l : List Sl} (h2 : TF sd b l us f) : (sortB (keyL l)).length ≤ 256 := by
  rw [(sortB_perm (keyL l)).length_eq]
  have := keyL_le l
  have := h2.sz
  omega
end Go.Proofs.Ytonafabgbkohlaa.La


namespace Go.Proofs.Ytonafabgbkohlaa.Q
open Go.RowKit Go.Proofs.Ytonafabgbkohlaa.Zip Go.Proofs.YtonafabgbkohlaaW.PrintWords Go.Proofs.YtonafabgbkohlaaW.PrintLast Go.Proofs.YtonafabgbkohlaaW.PrintMore Go.Proofs.Ytonafabgbkohlaa.La
set_option linter.unusedVariables false
set_option linter.unusedSimpArgs false
def sandglasslaw05_RobinTurned.f (a0 : Int) (l1 : List ByteArray) : Option Bool := some true
set_option maxRecDepth 100000 in
set_option maxHeartbeats 4000000 in
theorem sandglasslaw05_RobinTurned.calls (a0 : Int) (A1 : Option Addr) (c1 : Nat) (l1 : List ByteArray) (r : Bool) (w : World) (hr1 : Kd.C Kd.string w A1 l1.length l1) (hc1 : l1.length ≤ c1) (h : sandglasslaw05_RobinTurned.f a0 l1 = some r) :
    Calls Try.prog 9 #[.int .u64 a0, .slice A1 l1.length c1] w fun e w' => e = .returned (.bool r) ∧ Below w.heap.size w w' := by
  obtain rfl := Option.some.inj h
  have HR := Aside0.mk hr1
  clear h hr1
  have HLV := Aside0.mk @sandglasslaw05_live.calls
  by_cases hg : 31 < l1.length
  · have d0 : decide (31 < l1.length) = true := decide_eq_true hg
    have d0i : decide ((31 : Int) < (l1.length : Int)) = true := decide_eq_true (by omega)
    clear hg
    go_enter Try.func9, Try.ntmps9
    go_wp2_with (go_at_call 11; refine (HLV.out w).mono ?_; rintro e w5 ⟨rfl, hb⟩; have HB5 := Aside0.mk hb; clear hb)
    go_ret
    exact ⟨rfl, HB5.out⟩
  have d0 : decide (31 < l1.length) = false := decide_eq_false hg
  have d0i : decide ((31 : Int) < (l1.length : Int)) = false := decide_eq_false (by omega)
  have HLN := Aside0.mk (show l1.length ≤ 31 by omega)
  clear hg
  obtain ⟨n0, hn0⟩ : ∃ n0, w.heap.size = n0 := ⟨_, rfl⟩
  have HN0 := Aside0.mk hn0
  have HN1 := Aside0.mk (tt_new a0 5 w (by decide) (by decide))
  rw [hn0] at HN1
  clear hn0
  go_enter Try.func9, Try.ntmps9
  go_upto_region 3 with (fail)
  clear d0 d0i
  go_upto_region 4 with (go_at_call 12; refine HN1.out.mono ?_; rintro e w1 ⟨rfl, ht, hb⟩; have HT := Aside0.mk ht; have HB := Aside0.mk (show Below w.heap.size w w1 by rw [HN0.out]; exact hb); clear ht hb)
  obtain ⟨m0, hm0⟩ : ∃ m0, w1.heap.size = m0 := ⟨_, rfl⟩
  have HM0 := Aside0.mk (show n0 + 1 < m0 ∧ w.heap.size = n0 from ⟨by have := HT.out.lt; omega, HN0.out⟩)
  have HN2 := Aside0.mk (tt_new a0 5 w1 (by decide) (by decide))
  rw [hm0] at HN2
  clear HN1
  go_upto_region 5 with (go_at_call 12; refine HN2.out.mono ?_; rintro e w2 ⟨rfl, ht, hb⟩; have HU := Aside0.mk ht; replace HT := Aside0.mk (HT.out.below (by rw [hm0]; exact hb)); replace HB := Aside0.mk (show Below w.heap.size w w2 from HB.out.trans (hb.mono (by have := HB.out.size; omega))); clear ht hb)
  clear HN2 hm0
  go_upto_region 7 with (fail)
  go_wp2
  go_loopw [9] (fun v9 w' => ∃ (i : Nat) (u u2 : Int) (f f2 : KF), v9 = .int .i64 i ∧ Aside0 (i ≤ l1.length ∧ u ≤ i ∧ u2 ≤ i) ∧ Aside0 (Dom l1 (fun j => j) i f ∧ Dom l1 (fun j => l1.length - 1 - j) i f2) ∧ Aside0 (TT (n0 + 1) n0 a0 5 u f w') ∧ Aside0 (TT (m0 + 1) m0 a0 5 u2 f2 w') ∧ Aside0 (Below w.heap.size w w')) (fun v9 _ => l1.length - (intOf v9).toNat)
  case atStart => exact ⟨0, 0, 0, _, _, rfl, ⟨Nat.zero_le _, by omega, by omega⟩, ⟨Dom.zero _ _, Dom.zero _ _⟩, HT, HU, HB⟩
  case round =>
    clear HT HU HB
    obtain ⟨i, u, u2, f, f2, rfl, HI, HD, HT, HU, HB⟩ := hrel
    by_cases hlt : i < l1.length
    · have d2 : decide (i < l1.length) = true := decide_eq_true hlt
      have HLT := Aside0.mk hlt
      obtain ⟨ad, ea, y0⟩ := Kd.at_string HR.out (i : Int) (by omega) (by omega)
      subst ea
      simp only [Int.toNat_natCast] at y0
      have HY := Aside0.mk y0
      obtain ⟨key, hkey⟩ : ∃ key, kAt l1 i = key := ⟨_, rfl⟩
      rw [show rdOf ByteArray.empty l1 (i : Int) = key from hkey] at y0 HY
      have DW := Aside0.mk (show wrap64 ((i : Int) + 1) = (i : Int) + 1 by have := HLN.out; unfold wrap64; omega)
      have q0 := eq_true (show (0 : Int) ≤ (i : Int) by omega)
      have q1 := eq_true (show (i : Int) < (l1.length : Int) by omega)
      have q2 := eq_true hlt
      replace y0 := pw_cell_below HB.out y0
      by_cases hs : 33 < key.size
      · have d3 : decide (33 < key.size) = true := decide_eq_true hs
        have d3i : decide ((33 : Int) < (key.size : Int)) = true := decide_eq_true (by omega)
        clear hs hkey hlt
        go_wp2_with (go_at_call 11; refine (HLV.out wr).mono ?_; rintro e w5 ⟨rfl, hb⟩; have HB5 := Aside0.mk hb; clear hb)
        all_goals
          go_ret
          exact ⟨rfl, HB.out.trans (HB5.out.mono HB.out.size)⟩
      have d3 : decide (33 < key.size) = false := decide_eq_false hs
      have d3i : decide ((33 : Int) < (key.size : Int)) = false := decide_eq_false (by omega)
      obtain ⟨ad2, ea, z0⟩ := Kd.at_string HR.out ((l1.length - 1 - i : Nat) : Int) (by omega) (by omega)
      obtain rfl := Option.some.inj ea
      simp only [Int.toNat_natCast] at z0
      obtain ⟨key2, hkey2⟩ : ∃ key2, kAt l1 (l1.length - 1 - i) = key2 := ⟨_, rfl⟩
      rw [show rdOf ByteArray.empty l1 ((l1.length - 1 - i : Nat) : Int) = key2 from hkey2] at z0
      have HZ := Aside0.mk z0
      clear z0
      obtain ⟨e1, u', f', hp⟩ : ∃ e0 u' f', putF 5 f u key (i : Int) = (e0, u', f') := ⟨_, _, _, rfl⟩
      obtain ⟨e2, u2', f2', hp2⟩ : ∃ e0 u' f', putF 5 f2 u2 key2 (i : Int) = (e0, u', f') := ⟨_, _, _, rfl⟩
      have HP := Aside0.mk hp
      have HP2 := Aside0.mk hp2
      rw [← hkey] at hp
      rw [← hkey2] at hp2
      have D1 := Aside0.mk (HD.out.1.put (by have := HI.out; have := HLN.out; omega) hp)
      have D2 := Aside0.mk (HD.out.2.put (by have := HI.out; have := HLN.out; omega) hp2)
      have s1 : wrap64 ((l1.length : Int) - 1) = (l1.length : Int) - 1 := by have := HLN.out; unfold wrap64; omega
      have s2 : wrap64 ((l1.length : Int) - 1 - (i : Int)) = ((l1.length - 1 - i : Nat) : Int) := by have := HLN.out; have := HLT.out; unfold wrap64; omega
      have r0 := eq_true (show (0 : Int) ≤ ((l1.length - 1 - i : Nat) : Int) by omega)
      have r1 := eq_true (show ((l1.length - 1 - i : Nat) : Int) < (l1.length : Int) by omega)
      have r2 := eq_true (show l1.length - 1 - i < l1.length by omega)
      clear hs hkey hkey2 hlt hp hp2
      go_upto_region 13 with (go_at_call 21; refine (tt_put_any HT.out key (i : Int) HP.out).mono ?_; rintro e w3 ⟨rfl, ht, hf⟩; have HT3 := Aside0.mk ht; have HU3 := Aside0.mk (HU.out.fr hf (by have := HM0.out; omega) (by have := HM0.out; omega)); have HB3 := Aside0.mk (HB.out.trans (hf.below (fun q hq => by have := HM0.out; omega) HB.out.size)); clear ht hf y0)
      have z0 := pw_cell_below HB3.out HZ.out
      go_wp2_with (go_at_call 21; refine (tt_put_any HU3.out key2 (i : Int) HP2.out).mono ?_; rintro e w4 ⟨rfl, ht, hf⟩; have HU4 := Aside0.mk ht; have HT4 := Aside0.mk (HT3.out.fr hf (by have := HM0.out; omega) (by have := HM0.out; omega)); have HB4 := Aside0.mk (HB3.out.trans (hf.below (fun q hq => by have := HM0.out; omega) HB3.out.size)); clear ht hf z0)
      all_goals
        refine ⟨⟨i + 1, u', u2', f', f2', by rw [DW.out]; rfl, ⟨by have := HLT.out; omega, by have := D1.out.2; have := HI.out; omega, by have := D2.out.2; have := HI.out; omega⟩, ⟨D1.out.1, D2.out.1⟩, HT4, HU4, HB4⟩, ?_⟩
        rw [DW.out]
        simp only [intOf]
        have := HLT.out
        omega
    · obtain rfl : i = l1.length := by have := HI.out.1; omega
      have d2 : decide (l1.length < l1.length) = false := decide_eq_false hlt
      clear hlt
      obtain ⟨la, ta, fa⟩ := HT.out
      obtain ⟨lb, tb, fb⟩ := HU.out
      have hdom := HD.out.1.turn HD.out.2
      have hla : la.length = 32 := fa.len
      have hlb : lb.length = 32 := fb.len
      obtain ⟨hu, ht⟩ := turned fa fb hdom (by have := HI.out; have := HLN.out; omega)
      subst hu
      rw [hla] at ht
      have HSame := Aside0.mk ht
      have ks := tab_keys ta fa
      have HSL1 := Aside0.mk (robin_Table_Slots.calls (n0 + 1) n0 a0 ((5 : Nat) : Int) u la wr ta (by omega))
      have HTA := Aside0.mk ta
      have HTB := Aside0.mk tb
      have HFA := Aside0.mk fa
      have HFB := Aside0.mk fb
      have HLA := Aside0.mk hla
      have HLB := Aside0.mk hlb
      have HSS := Aside0.mk (sorted_same fa fb hdom)
      clear ta tb fa fb hla hlb ht hdom HT HU HD HI ks
      go_upto_region 15 with (go_at_call 20; refine HSL1.out.mono ?_; rintro e w3 ⟨v3, rfl, ho, hb⟩; obtain ⟨As, cs, rfl⟩ := Kd.R_slice ho; have HTA3 := Aside0.mk (HTA.out.below hb); have HTB3 := Aside0.mk (HTB.out.below hb); have HB3 := Aside0.mk (HB.out.trans (hb.mono HB.out.size)); have HO := Aside0.mk (Kd.R_reads' ho).2.2; clear ho hb)
      have HSL2 := Aside0.mk (robin_Table_Slots.calls (m0 + 1) m0 a0 ((5 : Nat) : Int) u lb w3 HTB3.out (by have := HLB.out; omega))
      go_upto_region 16 with (go_at_call 20; refine HSL2.out.mono ?_; rintro e w4 ⟨v4, rfl, ho, hb⟩; obtain ⟨Bs, bs, rfl⟩ := Kd.R_slice ho; have HTA4 := Aside0.mk (HTA3.out.below hb); have HTB4 := Aside0.mk (HTB3.out.below hb); have HB4 := Aside0.mk (HB3.out.trans (hb.mono HB3.out.size)); have HOA := Aside0.mk (Kd.C_below HO.out hb); have HOB := Aside0.mk (Kd.R_reads' ho).2.2; clear ho hb)
      rw [HLA.out, HLB.out]
      have HA2 := Aside0.mk (show Kd.C k52 w4 As 32 la from by have := HOA.out; rwa [HLA.out] at this)
      have HB2 := Aside0.mk (show Kd.C k52 w4 Bs 32 lb from by have := HOB.out; rwa [HLB.out] at this)
      clear HO HOA HOB HSL1 HSL2 HTA HTB HTA3 HTB3 HB3
      go_upto_region 18 with (first | (go_at_call 15; refine (tt_len (⟨la, HTA4.out, HFA.out⟩ : TT (n0 + 1) n0 a0 5 u f w4)).mono ?_; rintro e w5 ⟨rfl, hw⟩; have hw2 := hw.symm; subst hw2) | (go_at_call 15; refine (tt_len (⟨lb, HTB4.out, HFB.out⟩ : TT (m0 + 1) m0 a0 5 u f2 w4)).mono ?_; rintro e w6 ⟨rfl, hw⟩; have hw2 := hw.symm; subst hw2))
      go_wp2
      go_loopw [12] (fun v12 w' => ∃ t : Nat, v12 = .int .i64 t ∧ Aside0 (t ≤ 32) ∧ Aside0 (Below w4.heap.size w4 w')) (fun v12 _ => 32 - (intOf v12).toNat)
      case atStart => exact ⟨0, rfl, ⟨Nat.zero_le _⟩, ⟨Below.refl _ _⟩⟩
      case round =>
        obtain ⟨t, rfl, HI, HQ⟩ := hrel
        by_cases hd : t < 32
        · have d3 : decide (t < 32) = true := decide_eq_true hd
          have d3i : decide ((t : Int) < 32) = true := decide_eq_true (by omega)
          have HTL := Aside0.mk hd
          obtain ⟨hs1, hs2⟩ := HSame.out t hd
          obtain ⟨ad, ea, y0, y1, y2, y3⟩ := at_T52 (Kd.C_below HA2.out HQ.out) (t : Int) (by omega) (by omega)
          subst ea
          obtain ⟨bd, eb, z0, z1, z2, z3⟩ := at_T52 (Kd.C_below HB2.out HQ.out) (t : Int) (by omega) (by omega)
          subst eb
          simp only [Int.toNat_natCast] at y0 y1 y2 y3 z0 z1 z2 z3
          obtain ⟨x, hx⟩ : ∃ x, rd_T52 la (t : Int) = x := ⟨_, rfl⟩
          obtain ⟨y, hy⟩ : ∃ y, rd_T52 lb (t : Int) = y := ⟨_, rfl⟩
          rw [show sl la t = x from hx, show sl lb t = y from hy] at hs1 hs2
          rw [hx] at y0 y3
          rw [hy, ← hs1] at z0
          rw [hy, ← hs2] at z3
          have y0d : wr.drew.cell? (ad.add (t * 4)) = some (.bool x.f0) := y0
          have y3d : wr.drew.cell? ⟨(ad.add (t * 4)).block, (ad.add (t * 4)).off + 3, none⟩ = some (.int .i64 x.f3) := y3
          have z0d : wr.drew.cell? (bd.add (t * 4)) = some (.bool x.f0) := z0
          have z3d : wr.drew.cell? ⟨(bd.add (t * 4)).block, (bd.add (t * 4)).off + 3, none⟩ = some (.int .i64 x.f3) := z3
          have s0 : (x.f0 != x.f0) = false := by simp
          have s3 : (x.f3 != x.f3) = false := by simp
          have q0 := eq_true (show (0 : Int) ≤ (t : Int) by omega)
          have q1 := eq_true (show (t : Int) < 32 by omega)
          have q2 := eq_true hd
          have DT := Aside0.mk (show wrap64 ((t : Int) + 1) = (t : Int) + 1 by unfold wrap64; omega)
          have HQd := Aside0.mk (show Below w4.heap.size w4 wr.drew from below_drew HQ.out)
          clear hd hs1 hs2 hx hy y1 y2 z1 z2
          go_upto_region 21 with (fail)
          go_region
          all_goals
            go_wp2
            refine ⟨⟨t + 1, by rw [DT.out]; rfl, ⟨by have := HTL.out; omega⟩, HQd⟩, ?_⟩
            rw [DT.out]
            simp only [intOf]
            have := HTL.out
            omega
        · obtain rfl : t = 32 := by have := HI.out; omega
          have HK1 := Aside0.mk (tab_keys (HTA4.out.below HQ.out) HFA.out)
          have HTB5 := Aside0.mk (HTB4.out.below HQ.out)
          have HBw := Aside0.mk (HB4.out.trans (HQ.out.mono HB4.out.size))
          obtain ⟨ks, hks⟩ : ∃ ks, sortB (keyL la) = ks := ⟨_, rfl⟩
          have hkl := sorted_len HFA.out
          rw [hks] at HK1 hkl
          have HKB := Aside0.mk (show sortB (keyL lb) = ks by rw [← hks, HSS.out])
          have HTS := Aside0.mk (texts_same ks (by omega))
          have HK2 := Aside0.mk (fun w5 (hb : Below wr.heap.size wr w5) => show KeysOf w5 17 (m0 + 1) ks from by rw [← HKB.out]; exact tab_keys (HTB5.out.below hb) HFB.out)
          unfold KeysOf at HK1 HK2
          clear hd hks hkl
          go_wp2_with (first | (go_at_call 11; refine (HLV.out w7).mono ?_; rintro e w8 ⟨rfl, hb⟩; have HB8 := Aside0.mk hb; clear hb) | (go_at_call 16; refine (sandglassref05_Texts.calls (ks.length + 1) _ _ ks _ _ ks true w6 (Kd.R_reads' HO3.out).2.2 (Kd.R_reads' HO3.out).2.1 (Kd.R_reads' HO4.out).2.2 (Kd.R_reads' HO4.out).2.1 HTS.out).mono ?_; rintro e w7 ⟨rfl, hb⟩; have HB7 := Aside0.mk (HB6.out.trans (hb.below.mono HB6.out.size)); clear hb) | (go_at_call 17; refine (HK2.out w5 HBa.out).mono ?_; rintro e w6 ⟨v4, rfl, ho, hb⟩; obtain ⟨As4, cs4, rfl⟩ := Kd.R_slice ho; have HO4 := Aside0.mk ho; replace HO3 := Aside0.mk (Kd.R_below HO3.out hb); have HB6 := Aside0.mk (HB5.out.trans (hb.mono HB5.out.size)); clear ho hb) | (go_at_call 17; refine HK1.out.mono ?_; rintro e w5 ⟨v3, rfl, ho, hb⟩; obtain ⟨As3, cs3, rfl⟩ := Kd.R_slice ho; have HO3 := Aside0.mk ho; have HBa := Aside0.mk hb; have HB5 := Aside0.mk (HBw.out.trans (hb.mono HBw.out.size)); clear ho hb))
          all_goals
            go_ret
            exact ⟨rfl, HB7.out.trans (HB8.out.mono HB7.out.size)⟩
end Go.Proofs.Ytonafabgbkohlaa.Q


namespace Go.Proofs.Ytonafabgbkohlaa.Op
open Go.RowKit Go.Proofs.YtonafabgbkohlaaW.PrintWords Go.WideShapes

/-- Whatever reads as a datum of the type t is told by the kind d, and is as 'ok' says. -/
def Opens (P : Program) (t : TypeId) {α : Type} (d : Kd α) (ok : α → Prop) : Prop :=
  ∀ {H : Type} {enc : TypeId × Value → H} {w : World} {base : Nat} {spare : Nat → Bool} {held : Bool} {fuel : Nat} {cs : List Value} {x : DataW H × List MemPlace},
    DataW.trod enc P w base spare held fuel t cs = some x → ∃ a, d.K w a cs ∧ ok a

theorem Opens.int {P : Program} {t : TypeId} {k : IntKind} (hu : P.underlying t = some (.int k)) : Opens P t (Kd.int k) (fun a => (Lit.int k a).wf = true) := by
  intro H enc w base spare held fuel cs x h
  obtain ⟨n, rfl, _, hw⟩ := DataW.trod_int hu h
  exact ⟨n, rfl, hw⟩
theorem Opens.bool {P : Program} {t : TypeId} (hu : P.underlying t = some .bool) : Opens P t Kd.bool (fun _ => True) := by
  intro H enc w base spare held fuel cs x h
  obtain ⟨n, rfl, _⟩ := DataW.trod_bool hu h
  exact ⟨n, rfl, trivial⟩
theorem Opens.string {P : Program} {t : TypeId} (hu : P.underlying t = some .string) : Opens P t Kd.string (fun s => s.size ≤ maxLen) := by
  intro H enc w base spare held fuel cs x h
  obtain ⟨n, rfl, _, hs⟩ := DataW.trod_string hu h
  exact ⟨n, rfl, hs⟩
theorem Opens.slice {P : Program} {t e : TypeId} {α : Type} [Inhabited α] {d : Kd α} {ok : α → Prop} (hu : P.underlying t = some (.slice e)) (he : Opens P e d ok) (hc : P.cellsOf e = d.sz) :
    Opens P t (Kd.slice e d) (fun xs => xs.length ≤ maxLen ∧ ∀ x ∈ xs, ok x) := by
  intro H enc w base spare held fuel cs x h
  rcases Deep.open_slice hu h with ⟨rfl, _⟩ | ⟨a, len, cap, m, n, D, Pl, rfl, _, hl, hm, hmm, _, hel⟩
  · exact ⟨[], ⟨none, 0, rfl, Nat.le_refl _, Kd.C_nil d w⟩, ⟨Nat.zero_le _, fun x hx => by cases hx⟩⟩
  · have hle : len ≤ m := by rw [hmm]; split <;> omega
    obtain ⟨f, hf⟩ := Deep.choose_lt (α := α) (n := len) (p := fun i p => ok p ∧ ∃ c, c.length = d.sz ∧ d.K w p c ∧ ∀ j u, c[j]? = some u → w.cell? (a.add (i * d.sz + j)) = some u) (fun i hi => by
      obtain ⟨cs', h1, h2⟩ := hel i (by omega)
      obtain ⟨y, hK, hok⟩ := he h2
      obtain ⟨_, hlen, hcell⟩ := World.cells?_some h1
      refine ⟨y, hok, cs', by rw [hlen, hc], hK, fun j u hj => ?_⟩
      have hlt : j < P.cellsOf e := by rw [← hlen]; exact (List.getElem?_eq_some_iff.1 hj).1
      have := hcell j hlt
      rw [hc, Deep.add_add] at this
      rw [this, hj])
    refine ⟨(List.range len).map f, ⟨some a, cap, by simp, by simpa using hl, ?_⟩, by simpa using Nat.le_trans hl hm, ?_⟩
    · refine ⟨rfl, ?_, fun _ => ⟨a, rfl, fun j p hj => ?_⟩⟩
      · have : maxLen ≤ 9223372036854775807 := by decide
        simp; omega
      · rw [List.getElem?_map] at hj
        obtain ⟨q, hq, rfl⟩ := Option.map_eq_some_iff.1 hj
        have hlt := (List.getElem?_eq_some_iff.1 hq).1
        rw [List.length_range] at hlt
        rw [List.getElem?_range hlt] at hq
        obtain rfl := Option.some.inj hq
        exact (hf j hlt).2
    · intro x hx
      obtain ⟨i, hi, rfl⟩ := List.mem_map.1 hx
      exact (hf i (List.mem_range.1 hi)).1
theorem Opens.iso {P : Program} {t : TypeId} {α β : Type} {d : Kd α} {ok : α → Prop} (h : Opens P t d ok) (f : β → α) (g : α → β) (hfg : ∀ y, f (g y) = y) : Opens P t (Kd.iso d f) (fun b => ok (f b)) := by
  intro H enc w base spare held fuel cs x hx
  obtain ⟨a, hK, hok⟩ := h hx
  exact ⟨g a, by show d.K w (f (g a)) cs; rw [hfg]; exact hK, by show ok (f (g a)); rw [hfg]; exact hok⟩

/-- Parts in line: each of a type, at a place. -/
def OpensG (P : Program) {β : Type} (ty : β → TypeId) (at_ : β → Nat) (l : List β) (off : Nat) {α : Type} (d : Kd α) (ok : α → Prop) : Prop :=
  ∀ {H : Type} {enc : TypeId × Value → H} {w : World} {base : Nat} {spare : Nat → Bool} {held : Bool} {fuel : Nat} {cs : List Value} {ys : List (DataW H × List MemPlace)},
    cs.length = off + d.sz → l.mapM (fun b => DataW.trod enc P w base spare held fuel (ty b) ((cs.drop (at_ b)).take (P.cellsOf (ty b)))) = some ys → ∃ a, d.K w a (cs.drop off) ∧ ok a

theorem OpensG.one {P : Program} {β : Type} {ty : β → TypeId} {at_ : β → Nat} {b : β} {off : Nat} {α : Type} {d : Kd α} {ok : α → Prop} (h : Opens P (ty b) d ok) (ha : at_ b = off) (hc : P.cellsOf (ty b) = d.sz) : OpensG P ty at_ [b] off d ok := by
  intro H enc w base spare held fuel cs ys hl hm
  simp only [List.mapM_cons, List.mapM_nil, Option.pure_def, Option.bind_eq_bind, Option.bind_eq_some_iff] at hm
  obtain ⟨y, hy, _⟩ := hm
  rw [ha, hc] at hy
  obtain ⟨a, hK, hok⟩ := h hy
  rw [List.take_of_length_le (by rw [List.length_drop]; omega)] at hK
  exact ⟨a, hK, hok⟩
theorem OpensG.cons {P : Program} {β : Type} {ty : β → TypeId} {at_ : β → Nat} {b : β} {l : List β} {off : Nat} {α γ : Type} {d : Kd α} {ok : α → Prop} {d2 : Kd γ} {ok2 : γ → Prop} (h : Opens P (ty b) d ok) (ha : at_ b = off) (hc : P.cellsOf (ty b) = d.sz)
    (h2 : OpensG P ty at_ l (off + d.sz) d2 ok2) : OpensG P ty at_ (b :: l) off (Kd.pair d d2) (fun p => ok p.1 ∧ ok2 p.2) := by
  intro H enc w base spare held fuel cs ys hl hm
  simp only [List.mapM_cons, Option.pure_def, Option.bind_eq_bind, Option.bind_eq_some_iff] at hm
  obtain ⟨y, hy, zs, hz, _⟩ := hm
  rw [ha, hc] at hy
  obtain ⟨a, hK, hok⟩ := h hy
  have hl' : cs.length = off + (d.sz + d2.sz) := hl
  obtain ⟨c, hK2, hok2⟩ := h2 (by omega) hz
  refine ⟨(a, c), ⟨_, _, ?_, hK, hK2⟩, hok, hok2⟩
  rw [← List.drop_drop, List.take_append_drop]
theorem Opens.struct {P : Program} {t : TypeId} {fs : Array Field} {α : Type} {d : Kd α} {ok : α → Prop} (hu : P.underlying t = some (.struct fs)) (hc : P.cellsOf t = d.sz) (h : OpensG P (fun f : Field => f.type) (fun f => f.offset) fs.toList 0 d ok) : Opens P t d ok := by
  intro H enc w base spare held fuel cs x hx
  cases fuel with
  | zero => simp [DataW.trod] at hx
  | succ n =>
    unfold DataW.trod at hx
    rw [hu] at hx
    split at hx <;> (try simp_all; done)
    all_goals
      rename_i heq
      injection heq with h1
      injection h1 with h2
      subst h2
      split at hx
      · rename_i hl
        obtain ⟨ys, hy, _⟩ := Option.map_eq_some_iff.1 hx
        have := h (by rw [hl, hc]; omega) hy
        simpa using this
      · cases hx
theorem Opens.array {P : Program} {t e : TypeId} {n : Nat} {α : Type} {d : Kd α} {ok : α → Prop} (hu : P.underlying t = some (.array n e)) (hc : P.cellsOf t = d.sz) (h : OpensG P (fun _ : Nat => e) (fun i => i * P.cellsOf e) (List.range n) 0 d ok) : Opens P t d ok := by
  intro H enc w base spare held fuel cs x hx
  cases fuel with
  | zero => simp [DataW.trod] at hx
  | succ m =>
    unfold DataW.trod at hx
    rw [hu] at hx
    split at hx <;> (try simp_all; done)
    all_goals
      rename_i heq
      injection heq with h1
      injection h1 with h2 h3
      subst h2 h3
      split at hx
      · rename_i hl
        obtain ⟨ys, hy, _⟩ := Option.map_eq_some_iff.1 hx
        have := h (by rw [hl, hc]; omega) hy
        simpa using this
      · cases hx
theorem okWide_array {P : Program} {w : World} {r : Reach} {base : Nat} {t e : TypeId} {n : Nat} {v : Value} (ht : P.underlying t = some (.array n e)) (h : Value.okWide P w r base t v) : ∃ cs, v = .agg cs := by
  unfold Value.okWide at h
  rw [ht] at h
  obtain ⟨cs, hcs, _⟩ := h
  exact ⟨cs, hcs⟩
theorem agg_of {cs : Array Value} {l : List Value} (h : (Value.agg cs).cells.toList = l) : cs = l.toArray := by
  rw [← h]; rfl
theorem slice_of {a A : Option Addr} {n m c C : Nat} (h : (Value.slice a n c).cells.toList = [.slice A m C]) : a = A ∧ n = m ∧ c = C := by
  simpa [Value.cells] using h
theorem trod_lt_all {H : Type} {enc : TypeId × Value → H} {P : Program} {w : World} {base : Nat} {spare : Nat → Bool} {held : Bool} {t : TypeId} {v : Value} {d : DataW H} {p : List MemPlace} (h : DataW.Trod enc P w base spare held t v d p) : ∀ x ∈ p, x.block < w.heap.size := by
  obtain ⟨m, hm⟩ := h
  exact DataW.trod_lt m _ _ _ hm
theorem Opens.out {P : Program} {t : TypeId} {α : Type} {d : Kd α} {ok : α → Prop} (h : Opens P t d ok) {H : Type} {enc : TypeId × Value → H} {w : World} {base : Nat} {spare : Nat → Bool} {held : Bool} {fuel : Nat} {cs : List Value} {x : DataW H × List MemPlace}
    (hx : DataW.trod enc P w base spare held fuel t cs = some x) : ∃ a, d.K w a cs ∧ ok a := h hx
attribute [irreducible] Opens OpensG
end Go.Proofs.Ytonafabgbkohlaa.Op


namespace Go.Proofs.Ytonafabgbkohlaa.robinTurned
open Go.RowKit Go.Proofs.YtonafabgbkohlaaW.PrintWords Go.Proofs.YtonafabgbkohlaaW.PrintLast Go.Proofs.YtonafabgbkohlaaW.PrintMore Go.Proofs.Ytonafabgbkohlaa.Q
def Pure : Prop := ∀ (a0 : Int) (a1 : List ByteArray), (Lit.int .u64 a0).wf = true → (a1.length ≤ maxLen ∧ ∀ x ∈ a1, x.size ≤ maxLen) → sandglasslaw05_RobinTurned.f a0 a1 = some true
end Go.Proofs.Ytonafabgbkohlaa.robinTurned


namespace Go.Proofs.Ytonafabgbkohlaa.robinTurned
open Go.Proofs.Ytonafabgbkohlaa.Q
theorem pure : Pure := by
  unfold Pure
  intros
  rfl
end Go.Proofs.Ytonafabgbkohlaa.robinTurned


namespace Go.Proofs.Ytonafabgbkohlaa.robinTurned
open Go.ChangeShapes Go.WideShapes Go.ChangeAt Go.RowKit
open Go.Proofs.Ytonafabgbkohlaa.Op Go.Proofs.YtonafabgbkohlaaW.PrintWords Go.Proofs.Ytonafabgbkohlaa.Q
set_option linter.unusedVariables false
theorem own : ownKnob Try.prog.godebug = none := by kernel_rfl
theorem laidOut : laidOutB Try.prog = true := by kernel_rfl
set_option maxRecDepth 100000 in
set_option maxHeartbeats 2000000 in
theorem lifted (os : Os) (started : os.Started) (H : Type) (enc : TypeId × Value → H) :
    ReturnsInHanded {} Try.checked os 9 .any (Rows.robinTurnedSpec.pre6 enc Try.prog Try.f9 Rows.robinTurnedRow.domain false) (Rows.robinTurnedSpec.post enc Try.prog Try.f9 false true false false) := by
  refine returnsInHanded_of_change_sized (C := Try.checked) own started (by kernel_rfl) Try.func9
    (ChangeSpec.witness6 (enc := enc) (C := Try.checked) false ⟨#[], #[.int .u64 0, .slice none 0 0], []⟩ 8 (by kernel_rfl) (by kernel_rfl) (by kernel_rfl) (by kernel_rfl)) ?_
  intro W base args ds gs before hval0 hW hcnd hsz0 _
  have hval : ∀ (j : Nat) t v, Try.f9.params[j]? = some t → args[j]? = some v → Value.okWide Try.prog W .any base t v := hval0
  have hW' := hW
  obtain ⟨p, q, hA0, hV, rfl, hfz, hnd⟩ := hW
  have hA : DataW.TrodAll enc Try.prog W 0 (fun _ => true) true Try.f9.params.toList args.toList ds p := hA0
  rw [Try.params9] at hA hval
  obtain ⟨v0, vs0, d0, ds0, p0, q0, hargs, rfl, rfl, h0, r0⟩ := trodAll_cons hA
  obtain ⟨v1, vs1, d1, ds1, p1, q1, rfl, rfl, rfl, h1, r1⟩ := trodAll_cons r0
  obtain ⟨rfl, rfl, rfl⟩ := trodAll_nil r1
  obtain rfl : args = #[v0, v1] := by cases args; simp_all
  obtain ⟨rfl, rfl⟩ := trodVars_none hV
  have k0 := h0
  obtain ⟨fu0, hf0⟩ := h0
  obtain ⟨va0, rfl⟩ := okWide_int Try.underlying22 (hval 0 22 v0 rfl rfl)
  obtain ⟨a0, hcsa0, oka0⟩ := ((Opens.int Try.underlying22)).out hf0
  obtain rfl : a0 = va0 := by have e_ : [_] = [_] := hcsa0; simp at e_; exact e_.symm
  have k1 := h1
  obtain ⟨fu1, hf1⟩ := h1
  obtain ⟨va1, vn1, vc1, rfl⟩ := okWide_slice Try.underlying41 (hval 1 41 v1 rfl rfl)
  obtain ⟨a1, ⟨Aa1, ca1, hcsa1, hca1, hra1⟩, oka1⟩ := ((Opens.slice Try.underlying41 (Opens.string Try.underlying9) (by kernel_rfl))).out hf1
  obtain ⟨e1_, e2_, e3_⟩ := slice_of hcsa1
  subst va1; subst vn1; subst vc1
  clear hA0 hval0 hsz0
  have hp := pure a0 a1 oka0 oka1
  refine (sandglasslaw05_RobinTurned.calls a0 Aa1 ca1 a1 true W hra1 hca1 hp).mono fun e W' ⟨he, bel0⟩ => ?_
  have bel : Below W.heap.size W W' := bel0
  subst he
  exact ⟨_, rfl, _, _, _, [], _, [], hW', trodAll_mk1 (shut_bool Try.underlying4 _), (trodAll_cons_mk (Below.trod laidOut (by kernel_rfl) (of_decide_eq_true (by kernel_rfl)) k0 bel (trod_lt_all k0)) (trodAll_cons_mk (Below.trod laidOut (by kernel_rfl) (of_decide_eq_true (by kernel_rfl)) k1 bel (trod_lt_all k1)) trodAll_mk0)), rfl, bel.frame _, fun h => by cases h⟩
theorem over : Rows.robinTurnedRow.holds Try.pinned (OpenSpec.ofChange Rows.robinTurnedSpec) :=
  OpenClaim.holds_of_wide 9 Try.f9 rfl rfl rfl rfl rfl rfl rfl ⟨rfl, rfl, rfl, rfl, rfl⟩ rfl rfl rfl rfl rfl (by kernel_rfl) Try.func9 (by kernel_rfl)
    (of_decide_eq_true (by kernel_rfl)) (by unfold Func.isWrapper; first | (rw [if_pos (by decide +kernel)]; kernel_rfl) | (rw [if_neg (by decide +kernel)]; exact ⟨rfl, rfl⟩))
    (fun os started H enc _ => lifted os started H enc)
end Go.Proofs.Ytonafabgbkohlaa.robinTurned
namespace Go.Proofs.Ytonafabgbkohlaa
/-- The statement. -/
theorem robinTurned_holds : Rows.RobinTurnedSaid := robinTurned.over
#print axioms robinTurned_holds
end Go.Proofs.Ytonafabgbkohlaa

