/- What Put and Delete do to a table that is well. -/
import Derived.Test.YtonafabgbkohlaaRobinLa
namespace Go.Proofs.Ytonafabgbkohlaa.La
open Go.RowKit Go.Proofs.YtonafabgbkohlaaW.PrintWords Go.Proofs.YtonafabgbkohlaaW.PrintLast Go.Proofs.YtonafabgbkohlaaW.PrintMore Go.Proofs.Ytonafabgbkohlaa.Q
set_option linter.unusedSimpArgs false
set_option linter.unusedVariables false
theorem wr {x : Int} (h0 : -9223372036854775808 ≤ x) (h1 : x < 9223372036854775808) : wrap64 x = x := by unfold wrap64; omega
/-- A key stands in a table, with a value. -/
def Has (l : List Sl) (k : ByteArray) (v : Int) : Prop := ∃ i, i < l.length ∧ (sl l i).f0 = true ∧ (sl l i).f1 = k ∧ (sl l i).f2 = v
theorem has_set {l : List Sl} {i : Nat} (hi : i < l.length) {x : Sl} (hx : x.f0 = true) (k : ByteArray) (v : Int) : Has (l.set i x) k v ↔ (x.f1 = k ∧ x.f2 = v) ∨ ∃ j, j < l.length ∧ j ≠ i ∧ (sl l j).f0 = true ∧ (sl l j).f1 = k ∧ (sl l j).f2 = v := by
  constructor
  · rintro ⟨j, h1, h2, h3, h4⟩
    rw [List.length_set] at h1
    by_cases e : i = j
    · subst e; rw [sl_self hi] at h3 h4; exact Or.inl ⟨h3, h4⟩
    · rw [sl_ne hi _ e] at h2 h3 h4; exact Or.inr ⟨j, h1, fun q => e q.symm, h2, h3, h4⟩
  · rintro (⟨h1, h2⟩ | ⟨j, h1, h2, h3, h4, h5⟩)
    · exact ⟨i, by rw [List.length_set]; exact hi, by rw [sl_self hi]; exact hx, by rw [sl_self hi]; exact h1, by rw [sl_self hi]; exact h2⟩
    · have e : i ≠ j := fun q => h2 q.symm
      exact ⟨j, by rw [List.length_set]; exact h1, by rw [sl_ne hi _ e]; exact h3, by rw [sl_ne hi _ e]; exact h4, by rw [sl_ne hi _ e]; exact h5⟩
theorem inv_put {hm : ByteArray → Nat} {l : List Sl} {i d : Nat} {x : Sl} (h2 : 2 ≤ l.length) (hi : i < l.length) (I : Inv hm l) (xu : x.f0 = true) (xd : x.f3 = (d : Int)) (dn : d < l.length) (xh : (hm x.f1 + d) % l.length = i)
    (xp : ∀ p, p < l.length → (p + 1) % l.length = i → 0 < d → (sl l p).f0 = true ∧ (d : Int) ≤ (sl l p).f3 + 1) (xn : ∀ j, j < l.length → (sl l j).f0 = true → (sl l j).f1 ≠ x.f1)
    (nx : (sl l ((i + 1) % l.length)).f0 = true → 0 < (sl l ((i + 1) % l.length)).f3 → (sl l ((i + 1) % l.length)).f3 ≤ x.f3 + 1) : Inv hm (l.set i x) := by
  have hne : ∀ p, p < l.length → (p + 1) % l.length ≠ p := fun p hp => add_ne hp (by omega) (by omega)
  refine ⟨?_, ?_, ?_, ?_⟩
  · intro j hj hu
    rw [List.length_set] at hj ⊢
    by_cases e : i = j
    · subst e; rw [sl_self hi]; exact ⟨d, xd, dn, xh⟩
    · rw [sl_ne hi _ e] at hu ⊢; exact I.pos j hj hu
  · intro j hj
    rw [List.length_set] at hj ⊢
    by_cases e : i = (j + 1) % l.length
    · rw [← e, sl_self hi, sl_ne hi _ (fun q => hne j hj (by rw [← e, q]))]
      intro _ h0
      rw [xd] at h0 ⊢
      exact xp j hj e.symm (by omega)
    · rw [sl_ne hi _ e]
      by_cases e2 : i = j
      · subst e2
        rw [sl_self hi]
        intro h3 h4
        exact ⟨xu, nx h3 h4⟩
      · rw [sl_ne hi _ e2]; exact I.prev j hj
  · intro a c ha hc
    rw [List.length_set] at ha hc
    by_cases e : i = a
    · subst e
      by_cases e2 : i = c
      · intro _ _ _; exact e2
      · rw [sl_self hi, sl_ne hi _ e2]
        intro _ h3 h4; exact absurd h4.symm (xn c hc h3)
    · by_cases e2 : i = c
      · subst e2
        rw [sl_self hi, sl_ne hi _ e]
        intro h3 _ h4; exact absurd h4 (xn a ha h3)
      · rw [sl_ne hi _ e, sl_ne hi _ e2]; exact I.uniq a c ha hc
  · intro j hj
    rw [List.length_set] at hj
    by_cases e : i = j
    · subst e; rw [sl_self hi, xu]; intro h; cases h
    · rw [sl_ne hi _ e]; exact I.zero j hj
theorem putL_ok (hm : ByteArray → Nat) : ∀ (m : Nat) (l : List Sl) (i u d : Nat) (x : Sl), 2 ≤ l.length → l.length ≤ 100000 → i < l.length → u < l.length → (sl l u).f0 = false → (i + m) % l.length = u → d + m < l.length → Inv hm l → x.f0 = true → x.f3 = (d : Int) → (hm x.f1 + d) % l.length = i →
    (∀ p, p < l.length → (p + 1) % l.length = i → 0 < d → (sl l p).f0 = true ∧ (d : Int) ≤ (sl l p).f3 + 1) → (∀ j, j < l.length → (sl l j).f0 = true → (sl l j).f1 ≠ x.f1) → ∀ k, m + 1 ≤ k →
    ∃ l', putL k l i x = some l' ∧ Inv hm l' ∧ l'.length = l.length ∧ cnt l' = cnt l + 1 ∧ ∀ key v, Has l' key v ↔ Has l key v ∨ (x.f1 = key ∧ x.f2 = v) := by
  intro m
  induction m with
  | zero =>
    intro l i u d x h2 hN hi hu huf hiu hdm I xu xd xh xp xn k hk
    obtain ⟨k, rfl⟩ : ∃ q, k = q + 1 := ⟨k - 1, by omega⟩
    rw [Nat.add_zero, Nat.mod_eq_of_lt hi] at hiu
    subst hiu
    refine ⟨l.set i x, ?_, ?_, List.length_set .., ?_, ?_⟩
    · rw [putL]; exact if_pos huf
    · refine inv_put h2 hi I xu xd (by omega) xh xp xn (fun h3 h4 => ?_)
      have := (I.prev i hi h3 h4).1
      rw [huf] at this; cases this
    · have := cnt_set l i x hi
      simp only [bn, huf, xu] at this
      simpa using this
    · intro key v
      rw [has_set hi xu]
      constructor
      · rintro (h | ⟨j, h1, h3, h4, h5, h6⟩)
        · exact Or.inr h
        · exact Or.inl ⟨j, h1, h4, h5, h6⟩
      · rintro (⟨j, h1, h4, h5, h6⟩ | h)
        · exact Or.inr ⟨j, h1, (fun e => by rw [e, huf] at h4; cases h4), h4, h5, h6⟩
        · exact Or.inl h
  | succ m ih =>
    intro l i u d x h2 hN hi hu huf hiu hdm I xu xd xh xp xn k hk
    obtain ⟨k, rfl⟩ : ∃ q, k = q + 1 := ⟨k - 1, by omega⟩
    by_cases hf : (sl l i).f0 = false
    · refine ⟨l.set i x, ?_, ?_, List.length_set .., ?_, ?_⟩
      · rw [putL]; exact if_pos hf
      · refine inv_put h2 hi I xu xd (by omega) xh xp xn (fun h3 h4 => ?_)
        have := (I.prev i hi h3 h4).1
        rw [hf] at this; cases this
      · have := cnt_set l i x hi
        simp only [bn, hf, xu] at this
        simpa using this
      · intro key v
        rw [has_set hi xu]
        constructor
        · rintro (h | ⟨j, h1, h3, h4, h5, h6⟩)
          · exact Or.inr h
          · exact Or.inl ⟨j, h1, h4, h5, h6⟩
        · rintro (⟨j, h1, h4, h5, h6⟩ | h)
          · exact Or.inr ⟨j, h1, (fun e => by rw [e, hf] at h4; cases h4), h4, h5, h6⟩
          · exact Or.inl h
    have hfu : (sl l i).f0 = true := by rw [Bool.not_eq_false] at hf; exact hf
    have hiu2 : i ≠ u := fun e => by rw [e, huf] at hfu; cases hfu
    have hi2 : (i + 1) % l.length < l.length := Nat.mod_lt _ (by omega)
    have hst : ((i + 1) % l.length + m) % l.length = u := by rw [Nat.mod_add_mod, ← hiu]; congr 1; omega
    obtain ⟨ds, s1, s2, s3⟩ := I.pos i hi hfu
    by_cases hlt : (sl l i).f3 < x.f3
    · have e : putL (k + 1) l i x = putL k (l.set i x) ((i + 1) % l.length) ⟨(sl l i).f0, (sl l i).f1, (sl l i).f2, wrap64 ((sl l i).f3 + 1)⟩ := by
        rw [putL]; exact (if_neg hf).trans (if_pos hlt)
      have I1 : Inv hm (l.set i x) := inv_put h2 hi I xu xd (by omega) xh xp xn (fun h3 h4 => by
        have := (I.prev i hi h3 h4).2; omega)
      have hw : wrap64 ((sl l i).f3 + 1) = ((ds + 1 : Nat) : Int) := by rw [wr (by omega) (by omega)]; omega
      obtain ⟨l', r1, r2, r3, r4, r5⟩ := ih (l.set i x) ((i + 1) % l.length) u (ds + 1) ⟨(sl l i).f0, (sl l i).f1, (sl l i).f2, wrap64 ((sl l i).f3 + 1)⟩ (by rw [List.length_set]; exact h2) (by rw [List.length_set]; exact hN) (by rw [List.length_set]; exact hi2) (by rw [List.length_set]; exact hu) (by rw [sl_ne hi _ hiu2]; exact huf) (by rw [List.length_set]; exact hst) (by rw [List.length_set]; omega) I1 hfu hw (by rw [List.length_set]; show (hm (sl l i).f1 + (ds + 1)) % l.length = _; rw [step_mod, s3])
        (by
          rw [List.length_set]
          intro p hp hpe _
          obtain rfl := nx_inj hp hi hpe
          rw [sl_self hi]
          exact ⟨xu, by rw [xd]; omega⟩)
        (by
          rw [List.length_set]
          intro j hj hju
          by_cases e2 : i = j
          · subst e2; rw [sl_self hi]; exact fun q => xn i hi hfu q.symm
          · rw [sl_ne hi _ e2] at hju ⊢
            exact fun q => e2 (I.uniq i j hi hj hfu hju q.symm)) k (by omega)
      refine ⟨l', e.trans r1, r2, r3.trans (List.length_set ..), ?_, ?_⟩
      · have := cnt_set l i x hi
        simp only [bn, hfu, xu, if_true] at this
        omega
      · intro key v
        rw [r5, has_set hi xu]
        constructor
        · rintro ((h | ⟨j, h1, h3, h4, h5, h6⟩) | h)
          · exact Or.inr h
          · exact Or.inl ⟨j, h1, h4, h5, h6⟩
          · exact Or.inl ⟨i, hi, hfu, h.1, h.2⟩
        · rintro (⟨j, h1, h4, h5, h6⟩ | h)
          · by_cases e2 : j = i
            · subst e2; exact Or.inr ⟨h5, h6⟩
            · exact Or.inl (Or.inr ⟨j, h1, e2, h4, h5, h6⟩)
          · exact Or.inl (Or.inl h)
    · have e : putL (k + 1) l i x = putL k l ((i + 1) % l.length) ⟨x.f0, x.f1, x.f2, wrap64 (x.f3 + 1)⟩ := by
        rw [putL]; exact (if_neg hf).trans (if_neg hlt)
      have hw : wrap64 (x.f3 + 1) = ((d + 1 : Nat) : Int) := by rw [wr (by omega) (by omega)]; omega
      obtain ⟨l', r1, r2, r3, r4, r5⟩ := ih l ((i + 1) % l.length) u (d + 1) ⟨x.f0, x.f1, x.f2, wrap64 (x.f3 + 1)⟩ h2 hN hi2 hu huf hst (by omega) I xu hw (by show (hm x.f1 + (d + 1)) % l.length = _; rw [step_mod, xh])
        (by
          intro p hp hpe _
          obtain rfl := nx_inj hp hi hpe
          exact ⟨hfu, by omega⟩) xn k (by omega)
      exact ⟨l', e.trans r1, r2, r3, r4, r5⟩
/-- Well but for a hole, where what stood is still to be seen. -/
structure InvH (hm : ByteArray → Nat) (l : List Sl) (i : Nat) : Prop where
  hi : i < l.length
  used : (sl l i).f0 = true
  pos : ∀ i, i < l.length → (sl l i).f0 = true → ∃ d : Nat, (sl l i).f3 = (d : Int) ∧ d < l.length ∧ (hm (sl l i).f1 + d) % l.length = i
  prev : ∀ i, i < l.length → (sl l ((i + 1) % l.length)).f0 = true → 0 < (sl l ((i + 1) % l.length)).f3 → (sl l i).f0 = true ∧ (sl l ((i + 1) % l.length)).f3 ≤ (sl l i).f3 + 1
  uniq : ∀ a c, a < l.length → c < l.length → a ≠ i → c ≠ i → (sl l a).f0 = true → (sl l c).f0 = true → (sl l a).f1 = (sl l c).f1 → a = c
  zero : ∀ i, i < l.length → (sl l i).f0 = false → sl l i = zeroS
theorem Inv.hole {hm : ByteArray → Nat} {l : List Sl} {i : Nat} (I : Inv hm l) (hi : i < l.length) (hu : (sl l i).f0 = true) : InvH hm l i := ⟨hi, hu, I.pos, I.prev, fun a c ha hc _ _ => I.uniq a c ha hc, I.zero⟩
def HasX (l : List Sl) (i : Nat) (k : ByteArray) (v : Int) : Prop := ∃ j, j < l.length ∧ j ≠ i ∧ (sl l j).f0 = true ∧ (sl l j).f1 = k ∧ (sl l j).f2 = v
theorem delL_ok (hm : ByteArray → Nat) : ∀ (T : Nat) (l : List Sl) (i : Nat), 2 ≤ l.length → l.length ≤ 100000 → InvH hm l i → sumD l = T + (sl l i).f3.toNat → ∀ k, T + 1 ≤ k →
    ∃ m j, delL k l i = some (m, j) ∧ InvH hm m j ∧ m.length = l.length ∧ cnt m = cnt l ∧ ((sl m ((j + 1) % m.length)).f0 = false ∨ (sl m ((j + 1) % m.length)).f3 = 0) ∧ ∀ key v, HasX m j key v ↔ HasX l i key v := by
  intro T
  induction T with
  | zero =>
    intro l i h2 hN I hT k hk
    obtain ⟨k, rfl⟩ : ∃ q, k = q + 1 := ⟨k - 1, by omega⟩
    have hj : (i + 1) % l.length < l.length := Nat.mod_lt _ (by omega)
    have hne : (i + 1) % l.length ≠ i := add_ne I.hi (by omega) (by omega)
    have hz : (sl l ((i + 1) % l.length)).f0 = false ∨ (sl l ((i + 1) % l.length)).f3 = 0 := by
      by_cases hf : (sl l ((i + 1) % l.length)).f0 = false
      · exact Or.inl hf
      · rw [Bool.not_eq_false] at hf
        obtain ⟨d, d1, _, _⟩ := I.pos _ hj hf
        have q := sumD_set l i zeroS I.hi
        have q2 := sumD_at (l.set i zeroS) ((i + 1) % l.length) (by rw [List.length_set]; exact hj)
        rw [sl_ne I.hi _ (fun e => hne e.symm)] at q2
        have q3 : zeroS.f3.toNat = 0 := rfl
        right; omega
    refine ⟨l, i, ?_, I, rfl, rfl, hz, fun _ _ => Iff.rfl⟩
    rw [delL]
    rcases hz with hz | hz
    · exact if_pos hz
    · by_cases hf : (sl l ((i + 1) % l.length)).f0 = false
      · exact if_pos hf
      · exact (if_neg hf).trans (if_pos hz)
  | succ T ih =>
    intro l i h2 hN I hT k hk
    obtain ⟨k, rfl⟩ : ∃ q, k = q + 1 := ⟨k - 1, by omega⟩
    have hi := I.hi
    have hj : (i + 1) % l.length < l.length := Nat.mod_lt _ (by omega)
    have hne : (i + 1) % l.length ≠ i := add_ne hi (by omega) (by omega)
    have hne2 : i ≠ (i + 1) % l.length := fun e => hne e.symm
    by_cases hf : (sl l ((i + 1) % l.length)).f0 = false
    · exact ⟨l, i, by rw [delL]; exact if_pos hf, I, rfl, rfl, Or.inl hf, fun _ _ => Iff.rfl⟩
    by_cases hz : (sl l ((i + 1) % l.length)).f3 = 0
    · exact ⟨l, i, by rw [delL]; exact (if_neg hf).trans (if_pos hz), I, rfl, rfl, Or.inr hz, fun _ _ => Iff.rfl⟩
    have hfu : (sl l ((i + 1) % l.length)).f0 = true := by rw [Bool.not_eq_false] at hf; exact hf
    obtain ⟨d, d1, d2, d3⟩ := I.pos _ hj hfu
    obtain ⟨di, e1, e2, e3⟩ := I.pos i hi I.used
    obtain ⟨d0, rfl⟩ : ∃ q, d = q + 1 := ⟨d - 1, by omega⟩
    have hprev := (I.prev i hi hfu (by omega)).2
    have hw : wrap64 ((sl l ((i + 1) % l.length)).f3 - 1) = (d0 : Int) := by rw [wr (by omega) (by omega)]; omega
    have hd0 : (hm (sl l ((i + 1) % l.length)).f1 + d0) % l.length = i := nx_inj (Nat.mod_lt _ (by omega)) hi (by rw [← step_mod]; exact d3)
    have e : delL (k + 1) l i = delL k (l.set i ⟨(sl l ((i + 1) % l.length)).f0, (sl l ((i + 1) % l.length)).f1, (sl l ((i + 1) % l.length)).f2, wrap64 ((sl l ((i + 1) % l.length)).f3 - 1)⟩) ((i + 1) % l.length) := by
      rw [delL]; exact (if_neg hf).trans (if_neg hz)
    rw [hw] at e
    obtain ⟨x, hx⟩ : ∃ x : Sl, x = ⟨(sl l ((i + 1) % l.length)).f0, (sl l ((i + 1) % l.length)).f1, (sl l ((i + 1) % l.length)).f2, (d0 : Int)⟩ := ⟨_, rfl⟩
    have x0 : x.f0 = true := by rw [hx]; exact hfu
    have x1 : x.f1 = (sl l ((i + 1) % l.length)).f1 := by rw [hx]
    have x2 : x.f2 = (sl l ((i + 1) % l.length)).f2 := by rw [hx]
    have x3 : x.f3 = (d0 : Int) := by rw [hx]
    rw [← hx] at e
    clear hx hw
    have I1 : InvH hm (l.set i x) ((i + 1) % l.length) := by
      refine ⟨by rw [List.length_set]; exact hj, by rw [sl_ne hi _ hne2]; exact hfu, ?_, ?_, ?_, ?_⟩
      · intro a ha hu
        rw [List.length_set] at ha ⊢
        by_cases c : i = a
        · subst c; rw [sl_self hi]; exact ⟨d0, x3, by omega, by rw [x1]; exact hd0⟩
        · rw [sl_ne hi _ c] at hu ⊢; exact I.pos a ha hu
      · intro p hp
        rw [List.length_set] at hp ⊢
        have hpn : (p + 1) % l.length ≠ p := add_ne hp (by omega) (by omega)
        by_cases c : i = (p + 1) % l.length
        · rw [← c, sl_self hi, sl_ne hi _ (fun q => hpn (by rw [← c, q]))]
          intro _ h0
          have := I.prev p hp (by rw [← c]; exact I.used) (by rw [← c]; omega)
          rw [← c] at this
          exact ⟨this.1, by omega⟩
        · rw [sl_ne hi _ c]
          by_cases c2 : i = p
          · subst c2; rw [sl_self hi]; intro _ _; exact ⟨x0, by omega⟩
          · rw [sl_ne hi _ c2]; exact I.prev p hp
      · intro a c ha hc na nc
        rw [List.length_set] at ha hc
        by_cases q : i = a
        · subst q
          by_cases q2 : i = c
          · intro _ _ _; exact q2
          · rw [sl_self hi, sl_ne hi _ q2, x1]
            intro _ h3 h4
            exact absurd (I.uniq c _ hc hj (fun z => q2 z.symm) hne h3 hfu h4.symm) nc
        · by_cases q2 : i = c
          · subst q2
            rw [sl_self hi, sl_ne hi _ q, x1]
            intro h3 _ h4
            exact absurd (I.uniq a _ ha hj (fun z => q z.symm) hne h3 hfu h4) na
          · rw [sl_ne hi _ q, sl_ne hi _ q2]
            exact I.uniq a c ha hc (fun z => q z.symm) (fun z => q2 z.symm)
      · intro a ha
        rw [List.length_set] at ha
        by_cases c : i = a
        · subst c; rw [sl_self hi, x0]; intro h; cases h
        · rw [sl_ne hi _ c]; exact I.zero a ha
    have hs := sumD_set l i x hi
    obtain ⟨m, j, r1, r2, r3, r4, r5, r6⟩ := ih (l.set i x) ((i + 1) % l.length) (by rw [List.length_set]; exact h2) (by rw [List.length_set]; exact hN) I1 (by rw [sl_ne hi _ hne2]; rw [x3] at hs; omega) k (by omega)
    refine ⟨m, j, e.trans r1, r2, r3.trans (List.length_set ..), ?_, r5, ?_⟩
    · have := cnt_set l i x hi
      simp only [bn, I.used, x0, if_true] at this
      omega
    · intro key v
      rw [r6]
      constructor
      · rintro ⟨a, a1, a2, a3, a4, a5⟩
        rw [List.length_set] at a1
        by_cases c : i = a
        · subst c
          rw [sl_self hi] at a3 a4 a5
          exact ⟨_, hj, hne, hfu, x1 ▸ a4, x2 ▸ a5⟩
        · rw [sl_ne hi _ c] at a3 a4 a5
          exact ⟨a, a1, fun q => c q.symm, a3, a4, a5⟩
      · rintro ⟨a, a1, a2, a3, a4, a5⟩
        by_cases c : a = (i + 1) % l.length
        · subst c
          exact ⟨i, by rw [List.length_set]; exact hi, hne2, by rw [sl_self hi]; exact x0, by rw [sl_self hi, x1]; exact a4, by rw [sl_self hi, x2]; exact a5⟩
        · have q : i ≠ a := fun q => a2 q.symm
          exact ⟨a, by rw [List.length_set]; exact a1, c, by rw [sl_ne hi _ q]; exact a3, by rw [sl_ne hi _ q]; exact a4, by rw [sl_ne hi _ q]; exact a5⟩
theorem hole_shut {hm : ByteArray → Nat} {l : List Sl} {i : Nat} (h2 : 2 ≤ l.length) (I : InvH hm l i) (hs : (sl l ((i + 1) % l.length)).f0 = false ∨ (sl l ((i + 1) % l.length)).f3 = 0) : Inv hm (l.set i zeroS) ∧ cnt (l.set i zeroS) + 1 = cnt l ∧ ∀ key v, Has (l.set i zeroS) key v ↔ HasX l i key v := by
  have hi := I.hi
  have z0 : zeroS.f0 = false := rfl
  refine ⟨⟨?_, ?_, ?_, ?_⟩, ?_, ?_⟩
  · intro a ha hu
    rw [List.length_set] at ha ⊢
    by_cases c : i = a
    · subst c; rw [sl_self hi, z0] at hu; cases hu
    · rw [sl_ne hi _ c] at hu ⊢; exact I.pos a ha hu
  · intro p hp
    rw [List.length_set] at hp ⊢
    by_cases c : i = (p + 1) % l.length
    · rw [← c, sl_self hi, z0]; intro h; cases h
    · rw [sl_ne hi _ c]
      by_cases c2 : i = p
      · subst c2
        intro h3 h4
        rcases hs with hs | hs
        · rw [hs] at h3; cases h3
        · omega
      · rw [sl_ne hi _ c2]; exact I.prev p hp
  · intro a c ha hc
    rw [List.length_set] at ha hc
    by_cases q : i = a
    · subst q; rw [sl_self hi, z0]; intro h; cases h
    · by_cases q2 : i = c
      · subst q2; rw [sl_self hi, z0]; intro _ h; cases h
      · rw [sl_ne hi _ q, sl_ne hi _ q2]; exact I.uniq a c ha hc (fun z => q z.symm) (fun z => q2 z.symm)
  · intro a ha
    rw [List.length_set] at ha
    by_cases c : i = a
    · subst c; rw [sl_self hi]; intro _; rfl
    · rw [sl_ne hi _ c]; exact I.zero a ha
  · have := cnt_set l i zeroS hi
    simp only [bn, I.used, z0, if_true] at this
    simpa using this
  · intro key v
    constructor
    · rintro ⟨a, a1, a2, a3⟩
      rw [List.length_set] at a1
      by_cases c : i = a
      · subst c; rw [sl_self hi, z0] at a2; cases a2
      · rw [sl_ne hi _ c] at a2 a3; exact ⟨a, a1, fun q => c q.symm, a2, a3⟩
    · rintro ⟨a, a1, a2, a3, a4, a5⟩
      have c : i ≠ a := fun q => a2 q.symm
      exact ⟨a, by rw [List.length_set]; exact a1, by rw [sl_ne hi _ c]; exact a3, by rw [sl_ne hi _ c]; exact a4, by rw [sl_ne hi _ c]; exact a5⟩
end Go.Proofs.Ytonafabgbkohlaa.La
