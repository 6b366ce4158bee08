/- A table by Robin Hood's rule (layer 5): what is well, what find, Put and Delete do; in plain Lean. -/
import Derived.Test.YtonafabgbkohlaaQ17
import Derived.Test.YtonafabgbkohlaaQ18
import Derived.IntWalk
namespace Go.Proofs.Ytonafabgbkohlaa.La
open Go.RowKit Go.Proofs.YtonafabgbkohlaaW.PrintWords Go.Proofs.YtonafabgbkohlaaW.PrintLast Go.Proofs.YtonafabgbkohlaaW.PrintMore Go.Proofs.Ytonafabgbkohlaa.Q
set_option linter.unusedSimpArgs false
set_option linter.unusedVariables false
abbrev Sl := S52
def sl (l : List Sl) (i : Nat) : Sl := rd_T52 l (i : Int)
theorem sl_set {l : List Sl} {i : Nat} (h : i < l.length) (s : Sl) (j : Nat) : sl (l.set i s) j = if i = j then s else sl l j := by
  unfold sl rd_T52
  rw [Int.toNat_natCast, List.getD_eq_getElem?_getD, List.getD_eq_getElem?_getD, List.getElem?_set]
  by_cases e : i = j
  · subst e; simp [h]
  · simp [e]
theorem sl_self {l : List Sl} {i : Nat} (h : i < l.length) (s : Sl) : sl (l.set i s) i = s := by rw [sl_set h, if_pos rfl]
theorem sl_ne {l : List Sl} {i j : Nat} (h : i < l.length) (s : Sl) (e : i ≠ j) : sl (l.set i s) j = sl l j := by rw [sl_set h, if_neg e]
/-! Places in a ring. -/
theorem step_mod {h d n : Nat} : (h + (d + 1)) % n = ((h + d) % n + 1) % n := by rw [Nat.mod_add_mod, Nat.add_assoc]
theorem add_ne {a e n : Nat} (h1 : a < n) (h2 : 0 < e) (h3 : e < n) : (a + e) % n ≠ a := by
  intro q
  by_cases c : a + e < n
  · rw [Nat.mod_eq_of_lt c] at q; omega
  · rw [Nat.mod_eq_sub_mod (by omega), Nat.mod_eq_of_lt (by omega)] at q; omega
theorem mod_inj {h d D n : Nat} (h0 : 0 < n) (h1 : d < D) (h2 : D < n) : (h + d) % n ≠ (h + D) % n := by
  intro q
  have := add_ne (a := (h + d) % n) (e := D - d) (n := n) (Nat.mod_lt _ h0) (by omega) (by omega)
  rw [Nat.mod_add_mod, show h + d + (D - d) = h + D by omega] at this
  exact this q.symm
theorem nx_inj {i j n : Nat} (hi : i < n) (hj : j < n) (h : (i + 1) % n = (j + 1) % n) : i = j := by
  by_cases a : i + 1 < n
  · rw [Nat.mod_eq_of_lt a] at h
    by_cases c : j + 1 < n
    · rw [Nat.mod_eq_of_lt c] at h; omega
    · rw [show j + 1 = n by omega, Nat.mod_self] at h; omega
  · rw [show i + 1 = n by omega, Nat.mod_self] at h
    by_cases c : j + 1 < n
    · rw [Nat.mod_eq_of_lt c] at h; omega
    · omega
/-- Keys stand where their homes and dists say; none is further from home than the one ahead by more than one. -/
structure Inv (hm : ByteArray → Nat) (l : List Sl) : Prop where
  pos : ∀ i, i < l.length → (sl l i).f0 = true → ∃ d : Nat, (sl l i).f3 = (d : Int) ∧ d < l.length ∧ (hm (sl l i).f1 + d) % l.length = i
  prev : ∀ i, i < l.length → (sl l ((i + 1) % l.length)).f0 = true → 0 < (sl l ((i + 1) % l.length)).f3 → (sl l i).f0 = true ∧ (sl l ((i + 1) % l.length)).f3 ≤ (sl l i).f3 + 1
  uniq : ∀ i j, i < l.length → j < l.length → (sl l i).f0 = true → (sl l j).f0 = true → (sl l i).f1 = (sl l j).f1 → i = j
  zero : ∀ i, i < l.length → (sl l i).f0 = false → sl l i = zeroS
/-- Back from a key to its home all is used, and far enough from home. -/
theorem back {l : List Sl} (hn : 0 < l.length) (prev : ∀ i, i < l.length → (sl l ((i + 1) % l.length)).f0 = true → 0 < (sl l ((i + 1) % l.length)).f3 → (sl l i).f0 = true ∧ (sl l ((i + 1) % l.length)).f3 ≤ (sl l i).f3 + 1) (h D : Nat) (hu : (sl l ((h + D) % l.length)).f0 = true) (hd : (D : Int) ≤ (sl l ((h + D) % l.length)).f3) : ∀ e, e ≤ D → (sl l ((h + (D - e)) % l.length)).f0 = true ∧ ((D - e : Nat) : Int) ≤ (sl l ((h + (D - e)) % l.length)).f3
  | 0, _ => ⟨hu, hd⟩
  | e + 1, he => by
    obtain ⟨i1, i2⟩ := back hn prev h D hu hd e (by omega)
    rw [show D - e = (D - (e + 1)) + 1 by omega, step_mod] at i1 i2
    obtain ⟨p1, p2⟩ := prev _ (Nat.mod_lt _ hn) i1 (by omega)
    exact ⟨p1, by omega⟩
theorem findL_some {l : List Sl} {key : ByteArray} {h : Nat} : ∀ {r d i : Nat}, findL l key h r d = some i → (sl l i).f0 = true ∧ (sl l i).f1 = key
  | 0, d, i, e => by simp [findL] at e
  | r + 1, d, i, e => by
    rw [findL] at e
    split at e
    · cases e
    · rename_i h1
      split at e
      · cases e
      · split at e
        · rename_i h3
          obtain rfl := Option.some.inj e
          exact ⟨by rw [Bool.not_eq_false] at h1; exact h1, h3⟩
        · exact findL_some e
theorem findL_at {hm : ByteArray → Nat} {l : List Sl} (hn : 0 < l.length) (I : Inv hm l) {key : ByteArray} {D : Nat} (hD : D < l.length) (hu : (sl l ((hm key + D) % l.length)).f0 = true) (hk : (sl l ((hm key + D) % l.length)).f1 = key) (hd : (sl l ((hm key + D) % l.length)).f3 = (D : Int)) : ∀ (e d r : Nat), D - d = e → d ≤ D → D < d + r → findL l key (hm key) r d = some ((hm key + D) % l.length)
  | _, _, 0, _, h2, h3 => by omega
  | 0, d, r + 1, h1, h2, h3 => by
    obtain rfl : d = D := by omega
    rw [findL]
    rw [if_neg (by show ¬ (sl l _).f0 = false; rw [hu]; simp), if_neg (by show ¬ (sl l _).f3 < _; rw [hd]; omega)]
    exact if_pos hk
  | e + 1, d, r + 1, h1, h2, h3 => by
    obtain ⟨b1, b2⟩ := back hn I.prev (hm key) D hu (by omega) (D - d) (by omega)
    rw [show D - (D - d) = d by omega] at b1 b2
    have hne : ¬ (sl l ((hm key + d) % l.length)).f1 = key := fun q => mod_inj hn (show d < D by omega) hD (I.uniq _ _ (Nat.mod_lt _ hn) (Nat.mod_lt _ hn) b1 hu (q.trans hk.symm))
    rw [findL]
    rw [if_neg (by show ¬ (sl l _).f0 = false; rw [b1]; simp), if_neg (by show ¬ (sl l _).f3 < _; omega)]
    refine (if_neg hne).trans ?_
    exact findL_at hn I hD hu hk hd e (d + 1) r (by omega) (by omega) (by omega)
/-- find finds just the slot of the key. -/
theorem find_iff {hm : ByteArray → Nat} {l : List Sl} (hn : 0 < l.length) (I : Inv hm l) {key : ByteArray} {i : Nat} : findL l key (hm key) l.length 0 = some i ↔ i < l.length ∧ (sl l i).f0 = true ∧ (sl l i).f1 = key := by
  constructor
  · intro h
    obtain ⟨h1, h2⟩ := findL_some h
    exact ⟨findL_lt hn h, h1, h2⟩
  · rintro ⟨hi, hu, hk⟩
    obtain ⟨D, d1, d2, d3⟩ := I.pos i hi hu
    rw [hk] at d3
    subst d3
    exact findL_at hn I d2 hu hk d1 D 0 l.length rfl (Nat.zero_le _) (by omega)
/-! How many are used; sums of dists. -/
def bn (s : Sl) : Nat := if s.f0 = true then 1 else 0
def cnt : List Sl → Nat
  | [] => 0
  | s :: l => bn s + cnt l
theorem sl_cons (s : Sl) (l : List Sl) (i : Nat) : sl (s :: l) (i + 1) = sl l i := by unfold sl rd_T52; rw [Int.toNat_natCast, Int.toNat_natCast]; rfl
theorem sl_zero (s : Sl) (l : List Sl) : sl (s :: l) 0 = s := rfl
theorem cnt_set : ∀ (l : List Sl) (i : Nat) (s : Sl), i < l.length → cnt (l.set i s) + bn (sl l i) = cnt l + bn s
  | [], _, _, h => by simp at h
  | x :: l, 0, s, _ => by rw [sl_zero]; simp only [List.set_cons_zero, cnt]; omega
  | x :: l, i + 1, s, h => by
    have := cnt_set l i s (by simpa using h)
    rw [sl_cons]
    simp only [List.set_cons_succ, cnt]
    omega
theorem cnt_le : ∀ l : List Sl, cnt l ≤ l.length
  | [] => Nat.le_refl _
  | s :: l => by have := cnt_le l; simp only [cnt, List.length_cons, bn]; split <;> omega
theorem cnt_free : ∀ l : List Sl, cnt l < l.length → ∃ i, i < l.length ∧ (sl l i).f0 = false
  | [], h => by simp [cnt] at h
  | s :: l, h => by
    by_cases e : s.f0 = true
    · obtain ⟨i, h1, h2⟩ := cnt_free l (by simp only [cnt, bn, if_pos e, List.length_cons] at h; omega)
      exact ⟨i + 1, by simpa using h1, by rw [sl_cons]; exact h2⟩
    · exact ⟨0, by simp, by rw [sl_zero]; simpa using e⟩
theorem cnt_full : ∀ l : List Sl, cnt l = l.length → ∀ i, i < l.length → (sl l i).f0 = true
  | [], _, _, h => by simp at h
  | s :: l, h, i, hi => by
    have := cnt_le l
    simp only [cnt, bn, List.length_cons] at h
    split at h
    · rename_i hs
      cases i with
      | zero => rw [sl_zero]; exact hs
      | succ i => rw [sl_cons]; exact cnt_full l (by omega) i (by simpa using hi)
    · omega
def sumD : List Sl → Nat
  | [] => 0
  | s :: l => s.f3.toNat + sumD l
theorem sumD_set : ∀ (l : List Sl) (i : Nat) (s : Sl), i < l.length → sumD (l.set i s) + (sl l i).f3.toNat = sumD l + s.f3.toNat
  | [], _, _, h => by simp at h
  | x :: l, 0, s, _ => by rw [sl_zero]; simp only [List.set_cons_zero, sumD]; omega
  | x :: l, i + 1, s, h => by
    have := sumD_set l i s (by simpa using h)
    rw [sl_cons]
    simp only [List.set_cons_succ, sumD]
    omega
theorem sumD_at : ∀ (l : List Sl) (i : Nat), i < l.length → (sl l i).f3.toNat ≤ sumD l
  | [], _, h => by simp at h
  | x :: l, 0, _ => by rw [sl_zero]; simp only [sumD]; omega
  | x :: l, i + 1, h => by
    have := sumD_at l i (by simpa using h)
    rw [sl_cons]; simp only [sumD]; omega
end Go.Proofs.Ytonafabgbkohlaa.La
