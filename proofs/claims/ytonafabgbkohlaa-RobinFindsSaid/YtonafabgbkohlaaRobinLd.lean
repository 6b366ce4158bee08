/- A table in memory as a function from keys to values; what the calls tell of it. -/
import Derived.Test.YtonafabgbkohlaaRobinLc
import Derived.Test.YtonafabgbkohlaaQ9
import Derived.Test.YtonafabgbkohlaaQ17
import Derived.Test.YtonafabgbkohlaaQ16
import Derived.Test.YtonafabgbkohlaaQ18
import Derived.Test.YtonafabgbkohlaaQ10
namespace Go.Proofs.Ytonafabgbkohlaa.La
open Go.RowKit Go.Proofs.YtonafabgbkohlaaW.PrintWords Go.Proofs.YtonafabgbkohlaaW.PrintLast Go.Proofs.YtonafabgbkohlaaW.PrintMore Go.Proofs.Ytonafabgbkohlaa.Q
set_option linter.unusedSimpArgs false
set_option linter.unusedVariables false
abbrev KF := ByteArray → Option Int
def TT (g gs : Nat) (sd : Int) (b : Nat) (us : Int) (f : KF) (W : World) : Prop := ∃ l, Tab g gs sd (b : Int) l us W ∧ TF sd b l us f
section
variable {g gs : Nat} {sd : Int} {b : Nat} {us : Int} {f : KF} {W W' : World}
theorem TT.below (h : TT g gs sd b us f W) (hb : Below W.heap.size W W') : TT g gs sd b us f W' := by obtain ⟨l, h1, h2⟩ := h; exact ⟨l, h1.below hb, h2⟩
theorem TT.drew (h : TT g gs sd b us f W) : TT g gs sd b us f W.drew := by obtain ⟨l, h1, h2⟩ := h; exact ⟨l, h1.drew, h2⟩
theorem TT.drewN (h : TT g gs sd b us f W) (n : Nat) : TT g gs sd b us f (W.drewN n) := by obtain ⟨l, h1, h2⟩ := h; exact ⟨l, h1.drewN n, h2⟩
theorem TT.alloc (h : TT g gs sd b us f W) (o : Obj) : TT g gs sd b us f (W.alloc o) := by obtain ⟨l, h1, h2⟩ := h; exact ⟨l, h1.alloc o, h2⟩
theorem TT.fr {S : Nat → Prop} (h : TT g gs sd b us f W) (hb : Fr S W W') (h1 : ¬ S g) (h2 : ¬ S gs) : TT g gs sd b us f W' := by
  obtain ⟨l, k1, k2⟩ := h
  exact ⟨l, ⟨hb.blk k1.hd h1, hb.blk k1.sl h2, k1.ne⟩, k2⟩
theorem TT.rng (h : TT g gs sd b us f W) : 0 ≤ us ∧ us ≤ 2 ^ b := by
  obtain ⟨l, h1, h2⟩ := h
  have := cnt_le l
  have e := h2.len
  rw [h2.us]
  refine ⟨by omega, ?_⟩
  have : ((cnt l : Nat) : Int) ≤ ((2 ^ b : Nat) : Int) := by omega
  simpa using this
end
/-- What Put does to a table as a function. -/
def putF (b : Nat) (f : KF) (us : Int) (key : ByteArray) (v : Int) : Int × Int × KF :=
  if key.size = 0 ∨ key.size > 33 then (1, us, f) else match f key with
  | some _ => (0, us, upd f key (some v))
  | none => if us = 2 ^ b then (4, us, f) else (0, us + 1, upd f key (some v))
def delF (f : KF) (us : Int) (key : ByteArray) : Bool × Int × KF := match f key with
  | none => (false, us, f)
  | some _ => (true, us - 1, upd f key none)
def getF (f : KF) (key : ByteArray) : Int × Bool := match f key with
  | none => (0, false)
  | some v => (v, true)
theorem tt_new (sd : Int) (b : Nat) (w : World) (h0 : 1 ≤ b) (h1 : b ≤ 8) : Calls Try.prog 12 #[.int .u64 sd, .int .i64 (b : Int)] w fun e w' => e = .returned (.tuple #[.pointer (some ⟨w.heap.size + 1, 0, none⟩), .int .i64 0]) ∧ TT (w.heap.size + 1) w.heap.size sd b 0 (fun _ => none) w' ∧ Below w.heap.size w w' := by
  refine (robin_New.calls sd b w h0 h1).mono ?_
  rintro e w' ⟨rfl, ht, hb⟩
  exact ⟨rfl, ⟨_, ht, TF.new sd b h0 h1⟩, hb⟩
theorem tt_put {g gs : Nat} {sd : Int} {b : Nat} {us : Int} {f : KF} {w : World} (h : TT g gs sd b us f w) (key : ByteArray) (v : Int) (hk : key.size ≤ 4611686018427387904) {e0 us' : Int} {f' : KF} (hp : putF b f us key v = (e0, us', f')) :
    Calls Try.prog 21 #[.pointer (some ⟨g, 0, none⟩), .string key, .int .i64 v] w fun e w' => e = .returned (.int .i64 e0) ∧ TT g gs sd b us' f' w' ∧ Fr (fun q => q = g ∨ q = gs) w w' := by
  obtain ⟨l, ht, hf⟩ := h
  have key2 : ∃ l', putT 300 sd b l us key v = some (l', us', e0) ∧ TF sd b l' us' f' := by
    unfold putF at hp
    by_cases hb : key.size = 0 ∨ key.size > 33
    · rw [if_pos hb] at hp; cases hp
      exact ⟨l, hf.put_bad 300 v hb, hf⟩
    · rw [if_neg hb] at hp
      cases e : f key with
      | some v0 =>
        rw [e] at hp; cases hp
        exact hf.put_old 300 v (by omega) e
      | none =>
        rw [e] at hp
        have hl : (l.length : Int) = 2 ^ b := by rw [hf.len]; simp
        by_cases hu : us = 2 ^ b
        · simp only [if_pos hu] at hp; cases hp
          exact ⟨l, hf.put_full 300 v (by omega) e (by omega), hf⟩
        · simp only [if_neg hu] at hp; cases hp
          exact hf.put_new (Nat.le_refl _) v (by omega) e (by omega)
  obtain ⟨l', h1, h2⟩ := key2
  refine (robin_Table_Put.calls 300 g gs sd us b l key v l' us' e0 w ht hf.len hf.b0 hf.b1 hk h1).mono ?_
  rintro e w' ⟨rfl, k1, _, k3⟩
  exact ⟨rfl, ⟨l', k1, h2⟩, k3⟩
theorem tt_del {g gs : Nat} {sd : Int} {b : Nat} {us : Int} {f : KF} {w : World} (h : TT g gs sd b us f w) (key : ByteArray) (hk : key.size ≤ 4611686018427387904) {e0 : Bool} {us' : Int} {f' : KF} (hp : delF f us key = (e0, us', f')) :
    Calls Try.prog 22 #[.pointer (some ⟨g, 0, none⟩), .string key] w fun e w' => e = .returned (.bool e0) ∧ TT g gs sd b us' f' w' ∧ Fr (fun q => q = g ∨ q = gs) w w' := by
  obtain ⟨l, ht, hf⟩ := h
  have key2 : ∃ l', delT 70000 sd b l us key = some (l', us', e0) ∧ TF sd b l' us' f' := by
    unfold delF at hp
    cases e : f key with
    | none =>
      rw [e] at hp; cases hp
      exact ⟨l, hf.del_no 70000 e, hf⟩
    | some v0 =>
      rw [e] at hp; cases hp
      exact hf.del_yes (Nat.le_refl _) e
  obtain ⟨l', h1, h2⟩ := key2
  refine (robin_Table_Delete.calls 70000 g gs sd us b l key l' us' e0 w ht hf.len hf.b0 hf.b1 hk h1).mono ?_
  rintro e w' ⟨rfl, k1, _, k3⟩
  exact ⟨rfl, ⟨l', k1, h2⟩, k3⟩
theorem tt_get {g gs : Nat} {sd : Int} {b : Nat} {us : Int} {f : KF} {w : World} (h : TT g gs sd b us f w) (key : ByteArray) (hk : key.size ≤ 4611686018427387904) {v : Int} {is : Bool} (hp : getF f key = (v, is)) :
    Calls Try.prog 25 #[.pointer (some ⟨g, 0, none⟩), .string key] w fun e w' => e = .returned (.tuple #[.int .i64 v, .bool is]) ∧ TT g gs sd b us f w' ∧ Below w.heap.size w w' := by
  obtain ⟨l, ht, hf⟩ := h
  have e : getT sd b l key = (v, is) := (hf.get key).trans hp
  have G := robin_Table_Get.calls g gs sd us b l key w ht hf.len hf.b0 hf.b1 hk
  rw [e] at G
  refine G.mono ?_
  rintro e w' ⟨rfl, hb⟩
  exact ⟨rfl, ⟨l, ht.below hb, hf⟩, hb⟩
theorem tt_len {g gs : Nat} {sd : Int} {b : Nat} {us : Int} {f : KF} {w : World} (h : TT g gs sd b us f w) :
    Calls Try.prog 15 #[.pointer (some ⟨g, 0, none⟩)] w fun e w' => e = .returned (.int .i64 us) ∧ w' = w := by
  obtain ⟨l, ht, hf⟩ := h
  exact robin_Table_Len.calls g gs sd b us l w ht
theorem ba_bne {a b : ByteArray} (h : a ≠ b) : (a == b) = false := by
  cases hh : (a == b) with
  | false => rfl
  | true =>
    exfalso; apply h
    have : (a.data == b.data) = true := hh
    cases a; cases b
    simp at this
    rw [this]
theorem ba_bne2 {a b : ByteArray} (h : a ≠ b) : (a != b) = true := by unfold bne; rw [ba_bne h]; rfl
/-- Only keys that may be are in it. -/
def KeyOk (f : KF) : Prop := ∀ q v, f q = some v → 1 ≤ q.size ∧ q.size ≤ 33
theorem KeyOk.none : KeyOk (fun _ => none) := fun q v h => nomatch h
theorem KeyOk.put {f f' : KF} {b : Nat} {us us' e : Int} {key : ByteArray} {v : Int} (h : KeyOk f) (hp : putF b f us key v = (e, us', f')) : KeyOk f' := by
  unfold putF at hp
  by_cases hb : key.size = 0 ∨ key.size > 33
  · rw [if_pos hb] at hp; cases hp; exact h
  · rw [if_neg hb] at hp
    have hu : KeyOk (upd f key (some v)) := fun q w hq => by
      unfold upd at hq
      by_cases e : q = key
      · subst e; omega
      · rw [if_neg e] at hq; exact h q w hq
    cases e2 : f key with
    | some _ => rw [e2] at hp; cases hp; exact hu
    | none =>
      rw [e2] at hp
      by_cases hf : us = 2 ^ b
      · simp only [if_pos hf] at hp; cases hp; exact h
      · simp only [if_neg hf] at hp; cases hp; exact hu
theorem KeyOk.del {f f' : KF} {us us' : Int} {e : Bool} {key : ByteArray} (h : KeyOk f) (hp : delF f us key = (e, us', f')) : KeyOk f' := by
  unfold delF at hp
  cases e2 : f key with
  | none => rw [e2] at hp; cases hp; exact h
  | some _ =>
    rw [e2] at hp; cases hp
    intro q w hq
    unfold upd at hq
    by_cases e : q = key
    · rw [if_pos e] at hq; cases hq
    · rw [if_neg e] at hq; exact h q w hq
/-- A Put that fails changes nothing; the key is not there. -/
theorem putF_no {f f' : KF} {b : Nat} {us us' e : Int} {key : ByteArray} {v : Int} (h : KeyOk f) (hp : putF b f us key v = (e, us', f')) (he : e ≠ 0) : f' = f ∧ us' = us ∧ f key = none := by
  unfold putF at hp
  by_cases hb : key.size = 0 ∨ key.size > 33
  · rw [if_pos hb] at hp; cases hp
    refine ⟨rfl, rfl, ?_⟩
    cases e2 : f key with
    | none => rfl
    | some w => have := h key w e2; omega
  · rw [if_neg hb] at hp
    cases e2 : f key with
    | some _ => rw [e2] at hp; cases hp; exact absurd rfl he
    | none =>
      rw [e2] at hp
      by_cases hf : us = 2 ^ b
      · simp only [if_pos hf] at hp; cases hp; exact ⟨rfl, rfl, rfl⟩
      · simp only [if_neg hf] at hp; cases hp; exact absurd rfl he
theorem putF_yes {f f' : KF} {b : Nat} {us us' : Int} {key : ByteArray} {v : Int} (hp : putF b f us key v = (0, us', f')) : f' = upd f key (some v) ∧ us' = us + (if (getF f key).2 = true then 0 else 1) := by
  unfold putF at hp
  unfold getF
  by_cases hb : key.size = 0 ∨ key.size > 33
  · rw [if_pos hb] at hp; cases hp
  · rw [if_neg hb] at hp
    cases e2 : f key with
    | some _ => rw [e2] at hp; cases hp; exact ⟨rfl, by simp⟩
    | none =>
      rw [e2] at hp
      by_cases hf : us = 2 ^ b
      · simp only [if_pos hf] at hp; cases hp
      · simp only [if_neg hf] at hp; cases hp; exact ⟨rfl, by simp⟩
theorem getF_self (f : KF) (key : ByteArray) (v : Int) : getF (upd f key (some v)) key = (v, true) := by unfold getF upd; simp
theorem getF_gone (f : KF) (key : ByteArray) : getF (upd f key none) key = (0, false) := by unfold getF upd; simp
theorem getF_ne (f : KF) {key q : ByteArray} (o : Option Int) (h : q ≠ key) : getF (upd f key o) q = getF f q := by unfold getF upd; rw [if_neg h]
end Go.Proofs.Ytonafabgbkohlaa.La
