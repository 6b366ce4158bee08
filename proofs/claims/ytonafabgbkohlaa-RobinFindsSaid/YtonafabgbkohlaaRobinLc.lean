/- A table as a function from keys to values. -/
import Derived.Test.YtonafabgbkohlaaRobinLb
namespace Go.Proofs.Ytonafabgbkohlaa.La
open Go.RowKit Go.Proofs.YtonafabgbkohlaaW.PrintWords Go.Proofs.YtonafabgbkohlaaW.PrintLast Go.Proofs.YtonafabgbkohlaaW.PrintMore Go.Proofs.Ytonafabgbkohlaa.Q
set_option linter.unusedSimpArgs false
set_option linter.unusedVariables false
/-- A table that is well, of 2 to the power of b slots, holds just what f says. -/
structure TF (sd : Int) (b : Nat) (l : List Sl) (us : Int) (f : ByteArray → Option Int) : Prop where
  b0 : 1 ≤ b
  b1 : b ≤ 8
  len : l.length = 2 ^ b
  inv : Inv (homeN sd b) l
  us : us = (cnt l : Int)
  has : ∀ k v, Has l k v ↔ f k = some v
def upd (f : ByteArray → Option Int) (k : ByteArray) (o : Option Int) : ByteArray → Option Int := fun q => if q = k then o else f q
section
variable {sd : Int} {b : Nat} {l : List Sl} {us : Int} {f : ByteArray → Option Int}
theorem TF.sz (h : TF sd b l us f) : 2 ≤ l.length ∧ l.length ≤ 256 := by
  have h1 := Nat.pow_le_pow_right (show 0 < 2 by omega) h.b1
  have h2 := Nat.pow_le_pow_right (show 0 < 2 by omega) h.b0
  rw [h.len]
  simp at h1 h2
  omega
theorem has_fun {hm : ByteArray → Nat} (I : Inv hm l) {k : ByteArray} {v v' : Int} (h : Has l k v) (h' : Has l k v') : v = v' := by
  obtain ⟨i, i1, i2, i3, i4⟩ := h
  obtain ⟨j, j1, j2, j3, j4⟩ := h'
  obtain rfl := I.uniq i j i1 j1 i2 j2 (i3.trans j3.symm)
  exact i4.symm.trans j4
theorem TF.find (h : TF sd b l us f) (key : ByteArray) : (f key = none ∧ findT sd b l key = none) ∨ ∃ i v, f key = some v ∧ findT sd b l key = some i ∧ i < l.length ∧ (sl l i).f0 = true ∧ (sl l i).f1 = key ∧ (sl l i).f2 = v := by
  have hz := h.sz
  have hi := fun i => find_iff (l := l) (by omega) h.inv (key := key) (i := i)
  unfold findT
  cases e : findL l key (homeN sd b key) l.length 0 with
  | none =>
    left
    refine ⟨?_, rfl⟩
    cases e2 : f key with
    | none => rfl
    | some v =>
      obtain ⟨i, i1, i2, i3, i4⟩ := (h.has key v).2 e2
      have := (hi i).2 ⟨i1, i2, i3⟩
      rw [e] at this; cases this
  | some i =>
    right
    obtain ⟨i1, i2, i3⟩ := (hi i).1 e
    exact ⟨i, (sl l i).f2, (h.has key _).1 ⟨i, i1, i2, i3, rfl⟩, rfl, i1, i2, i3, rfl⟩
theorem TF.get (h : TF sd b l us f) (key : ByteArray) : getT sd b l key = match f key with | none => (0, false) | some v => (v, true) := by
  unfold getT
  rcases h.find key with ⟨h1, h2⟩ | ⟨i, v, h1, h2, h3, h4, h5, h6⟩
  · rw [h1, h2]
  · rw [h1, h2]
    show ((sl l i).f2, true) = (v, true)
    rw [h6]
theorem TF.put_bad (h : TF sd b l us f) (k : Nat) {key : ByteArray} (v : Int) (hk : key.size = 0 ∨ key.size > 33) : putT k sd b l us key v = some (l, us, 1) := by
  unfold putT; rw [if_pos hk]
theorem TF.put_old (h : TF sd b l us f) (k : Nat) {key : ByteArray} (v : Int) (hk : 1 ≤ key.size ∧ key.size ≤ 33) {v0 : Int} (hf : f key = some v0) : ∃ l', putT k sd b l us key v = some (l', us, 0) ∧ TF sd b l' us (upd f key (some v)) := by
  rcases h.find key with ⟨h1, h2⟩ | ⟨i, v1, h1, h2, h3, h4, h5, h6⟩
  · rw [hf] at h1; cases h1
  unfold putT
  rw [if_neg (by omega), h2]
  have hz := h.sz
  obtain ⟨x, hx⟩ : ∃ x : Sl, x = ⟨(sl l i).f0, (sl l i).f1, v, (sl l i).f3⟩ := ⟨_, rfl⟩
  refine ⟨l.set i x, by rw [hx]; rfl, ?_⟩
  have x0 : x.f0 = true := by rw [hx]; exact h4
  have x1 : x.f1 = (sl l i).f1 := by rw [hx]
  have x2 : x.f2 = v := by rw [hx]
  have x3 : x.f3 = (sl l i).f3 := by rw [hx]
  clear hx
  have same : ∀ j, (sl (l.set i x) j).f0 = (sl l j).f0 ∧ (sl (l.set i x) j).f1 = (sl l j).f1 ∧ (sl (l.set i x) j).f3 = (sl l j).f3 := by
    intro j
    by_cases e : i = j
    · subst e; rw [sl_self h3]; exact ⟨x0.trans h4.symm, x1, x3⟩
    · rw [sl_ne h3 _ e]; exact ⟨rfl, rfl, rfl⟩
  refine ⟨h.b0, h.b1, (List.length_set ..).trans h.len, ⟨?_, ?_, ?_, ?_⟩, ?_, ?_⟩
  · intro a ha hu
    rw [List.length_set] at ha ⊢
    rw [(same a).1] at hu
    rw [(same a).2.1, (same a).2.2]
    exact h.inv.pos a ha hu
  · intro a ha
    rw [List.length_set] at ha ⊢
    rw [(same _).1, (same _).2.2, (same a).1, (same a).2.2]
    exact h.inv.prev a ha
  · intro a c ha hc
    rw [List.length_set] at ha hc
    rw [(same a).1, (same c).1, (same a).2.1, (same c).2.1]
    exact h.inv.uniq a c ha hc
  · intro a ha hu
    rw [List.length_set] at ha
    have hu2 := hu
    rw [(same a).1] at hu2
    by_cases e : i = a
    · subst e; rw [h4] at hu2; cases hu2
    · rw [sl_ne h3 _ e]; exact h.inv.zero a ha hu2
  · have := cnt_set l i x h3
    simp only [bn, h4, x0, if_true] at this
    rw [h.us]; omega
  · intro q w
    rw [has_set h3 x0]
    unfold upd
    by_cases e : q = key
    · subst e
      rw [if_pos rfl]
      constructor
      · rintro (⟨_, r⟩ | ⟨j, j1, j2, j3, j4, _⟩)
        · rw [← r, x2]
        · exact absurd (h.inv.uniq j i j1 h3 j3 h4 (j4.trans h5.symm)) j2
      · intro r
        exact Or.inl ⟨x1.trans h5, by rw [x2]; exact Option.some.inj r⟩
    · rw [if_neg e, ← h.has q w]
      constructor
      · rintro (⟨r, _⟩ | ⟨j, j1, j2, j3, j4, j5⟩)
        · exact absurd (r.symm.trans (x1.trans h5)) e
        · exact ⟨j, j1, j3, j4, j5⟩
      · rintro ⟨j, j1, j3, j4, j5⟩
        exact Or.inr ⟨j, j1, fun z => by subst z; exact e (j4.symm.trans h5), j3, j4, j5⟩
theorem TF.put_full (h : TF sd b l us f) (k : Nat) {key : ByteArray} (v : Int) (hk : 1 ≤ key.size ∧ key.size ≤ 33) (hf : f key = none) (hu : us = (l.length : Int)) : putT k sd b l us key v = some (l, us, 4) := by
  rcases h.find key with ⟨h1, h2⟩ | ⟨i, v1, h1, h2, h3, h4, h5, h6⟩
  · unfold putT
    rw [if_neg (by omega), h2]
    exact if_pos hu
  · rw [hf] at h1; cases h1
theorem TF.put_new (h : TF sd b l us f) {k : Nat} (hk0 : 300 ≤ k) {key : ByteArray} (v : Int) (hk : 1 ≤ key.size ∧ key.size ≤ 33) (hf : f key = none) (hu : us ≠ (l.length : Int)) : ∃ l', putT k sd b l us key v = some (l', us + 1, 0) ∧ TF sd b l' (us + 1) (upd f key (some v)) := by
  rcases h.find key with ⟨h1, h2⟩ | ⟨i, v1, h1, h2, h3, h4, h5, h6⟩
  case inr => rw [hf] at h1; cases h1
  have hz := h.sz
  have hc := cnt_le l
  have hus := h.us
  obtain ⟨u, u1, u2⟩ := cnt_free l (by omega)
  have hh : homeN sd b key < l.length := by rw [h.len]; exact homeN_lt sd b key h.b0 (by have := h.b1; omega)
  obtain ⟨m, m1, m2⟩ : ∃ m, m < l.length ∧ (homeN sd b key + m) % l.length = u := by
    by_cases c : homeN sd b key ≤ u
    · exact ⟨u - homeN sd b key, by omega, by rw [show homeN sd b key + (u - homeN sd b key) = u by omega, Nat.mod_eq_of_lt u1]⟩
    · exact ⟨u + l.length - homeN sd b key, by omega, by rw [show homeN sd b key + (u + l.length - homeN sd b key) = u + l.length by omega, Nat.add_mod_right, Nat.mod_eq_of_lt u1]⟩
  obtain ⟨l', r1, r2, r3, r4, r5⟩ := putL_ok (homeN sd b) m l (homeN sd b key) u 0 ⟨true, key, v, 0⟩ hz.1 (by omega) hh u1 u2 m2 (by omega) h.inv rfl rfl (by rw [Nat.add_zero, Nat.mod_eq_of_lt hh]) (fun p _ _ z => absurd z (by omega))
    (fun j j1 j2 j3 => by
      have := (h.has key _).1 ⟨j, j1, j2, j3, rfl⟩
      rw [hf] at this; cases this) k (by omega)
  refine ⟨l', ?_, h.b0, h.b1, r3.trans h.len, r2, by rw [r4, hus]; omega, ?_⟩
  · unfold putT
    rw [if_neg (by omega), h2]
    show (if us = (l.length : Int) then _ else _) = _
    rw [if_neg hu, r1]
    show some (l', wrap64 (us + 1), 0) = _
    rw [wr (by omega) (by omega)]
  · intro q w
    rw [r5, h.has]
    unfold upd
    by_cases e : q = key
    · subst e
      rw [if_pos rfl, hf]
      constructor
      · rintro (r | ⟨_, r⟩)
        · cases r
        · exact congrArg some r
      · intro r; exact Or.inr ⟨rfl, Option.some.inj r⟩
    · rw [if_neg e]
      constructor
      · rintro (r | ⟨r, _⟩)
        · exact r
        · exact absurd r.symm e
      · exact Or.inl
theorem TF.del_no (h : TF sd b l us f) (k : Nat) {key : ByteArray} (hf : f key = none) : delT k sd b l us key = some (l, us, false) := by
  rcases h.find key with ⟨h1, h2⟩ | ⟨i, v1, h1, h2, h3, h4, h5, h6⟩
  · unfold delT; rw [h2]
  · rw [hf] at h1; cases h1
theorem sumD_le {hm : ByteArray → Nat} {N : Nat} : ∀ l : List Sl, (∀ i, i < l.length → (sl l i).f3.toNat ≤ N) → sumD l ≤ l.length * N
  | [], _ => by simp [sumD]
  | s :: l, h => by
    have h1 := sumD_le (hm := hm) l (fun i hi => by have := h (i + 1) (by simpa using hi); rwa [sl_cons] at this)
    have h2 := h 0 (by simp)
    rw [sl_zero] at h2
    simp only [sumD, List.length_cons, Nat.add_mul, Nat.one_mul]
    omega
theorem TF.del_yes (h : TF sd b l us f) {k : Nat} (hk0 : 70000 ≤ k) {key : ByteArray} {v0 : Int} (hf : f key = some v0) : ∃ l', delT k sd b l us key = some (l', us - 1, true) ∧ TF sd b l' (us - 1) (upd f key none) := by
  rcases h.find key with ⟨h1, h2⟩ | ⟨i, v1, h1, h2, h3, h4, h5, h6⟩
  · rw [hf] at h1; cases h1
  have hz := h.sz
  have hc := cnt_le l
  have hus := h.us
  have hd : ∀ j, j < l.length → (sl l j).f3.toNat ≤ 256 := fun j hj => by
    by_cases e : (sl l j).f0 = true
    · obtain ⟨d, d1, d2, _⟩ := h.inv.pos j hj e
      omega
    · rw [h.inv.zero j hj (by simpa using e)]; decide
  have hs := sumD_le (hm := homeN sd b) l hd
  have hs2 : l.length * 256 ≤ 256 * 256 := Nat.mul_le_mul_right _ hz.2
  have hi := sumD_at l i h3
  obtain ⟨m, j, r1, r2, r3, r4, r5, r6⟩ := delL_ok (homeN sd b) (sumD l - (sl l i).f3.toNat) l i hz.1 (by omega) (h.inv.hole h3 h4) (by omega) k (by omega)
  obtain ⟨q1, q2, q3⟩ := hole_shut (by omega) r2 (by exact r5)
  refine ⟨m.set j zeroS, ?_, h.b0, h.b1, (List.length_set ..).trans (r3.trans h.len), q1, by omega, ?_⟩
  · unfold delT
    rw [h2]
    show (delL k l i).map _ = _
    rw [r1]
    show some (m.set j zeroS, wrap64 (us - 1), true) = _
    rw [wr (by omega) (by omega)]
  · intro q w
    rw [q3, r6]
    unfold upd
    by_cases e : q = key
    · subst e
      rw [if_pos rfl]
      constructor
      · rintro ⟨a, a1, a2, a3, a4, _⟩
        exact absurd (h.inv.uniq a i a1 h3 a3 h4 (a4.trans h5.symm)) a2
      · intro r; cases r
    · rw [if_neg e, ← h.has q w]
      constructor
      · rintro ⟨a, a1, a2, a3, a4, a5⟩; exact ⟨a, a1, a3, a4, a5⟩
      · rintro ⟨a, a1, a3, a4, a5⟩
        exact ⟨a, a1, fun z => by subst z; exact e (a4.symm.trans h5), a3, a4, a5⟩
end
theorem TF.new (sd : Int) (b : Nat) (h0 : 1 ≤ b) (h1 : b ≤ 8) : TF sd b (List.replicate (2 ^ b) zeroS) 0 (fun _ => none) := by
  have hs : ∀ i, sl (List.replicate (2 ^ b) zeroS) i = zeroS := by
    intro i
    unfold sl rd_T52
    rw [Int.toNat_natCast, List.getD_eq_getElem?_getD, List.getElem?_replicate]
    split <;> rfl
  have z0 : zeroS.f0 = false := rfl
  have hc : ∀ n, cnt (List.replicate n zeroS) = 0 := by
    intro n
    induction n with
    | zero => rfl
    | succ n ih => rw [List.replicate_succ]; simp only [cnt, bn, z0]; simpa using ih
  refine ⟨h0, h1, List.length_replicate, ⟨?_, ?_, ?_, ?_⟩, by rw [hc]; rfl, ?_⟩
  · intro i _ hu; rw [hs, z0] at hu; cases hu
  · intro i _ hu; rw [hs, z0] at hu; cases hu
  · intro i j _ _ hu; rw [hs, z0] at hu; cases hu
  · intro i _ _; exact hs i
  · intro k v
    constructor
    · rintro ⟨i, _, hu, _⟩; rw [hs, z0] at hu; cases hu
    · intro h; cases h
end Go.Proofs.Ytonafabgbkohlaa.La
