/- The reference's home; a key found by going from its home on. -/
import Derived.Test.YtonafabgbkohlaaRobinLd
import Derived.Test.YtonafabgbkohlaaQ30
import Derived.Test.YtonafabgbkohlaaQ32
namespace Go.Proofs.Ytonafabgbkohlaa.La
open Go.RowKit Go.Proofs.YtonafabgbkohlaaW.PrintWords Go.Proofs.YtonafabgbkohlaaW.PrintLast Go.Proofs.YtonafabgbkohlaaW.PrintMore Go.Proofs.Ytonafabgbkohlaa.Q
set_option linter.unusedSimpArgs false
set_option linter.unusedVariables false
theorem uw {x : Int} (h0 : 0 ≤ x) (h1 : x ≤ 18446744073709551615) : IntKind.u64.wrap x = x := IntWalk.u64_in x ⟨h0, h1⟩
theorem xor_U (a b : Int) : 0 ≤ Go.bits .xor .u64 a b ∧ Go.bits .xor .u64 a b ≤ 18446744073709551615 := by
  unfold Go.bits; rw [IntKind.wrap_u64]; omega
theorem mix_r (a : Int) : sandglassref03_Mix.f a = some (mixI a) := by
  unfold sandglassref03_Mix.f mixI mix3 mix2 mix1
  rw [Int.mul_one, uw (xor_U _ _).1 (xor_U _ _).2]
theorem bt_at (s : ByteArray) (i : Nat) (h : i < s.size) : bt s i = ((s.data.toList.getD i 0).toNat : Int) := by
  unfold bt
  rw [dif_pos (by simpa using h)]
  rw [List.getD_eq_getElem?_getD, List.getElem?_eq_getElem (by simpa using h)]; rfl
theorem sum_l0 (s : ByteArray) (hs : s.size ≤ 1000000) (a : Int) (n : Nat) : ∀ (d i : Nat), s.size - i = d → i ≤ s.size → d < n → sandglassref03_Sum.l0 n s (sumL (mixI a) (s.data.toList.take i)) (i : Int) = some (sumI a s) := by
  induction n with
  | zero => intro d i _ _ h; omega
  | succ n ih =>
    intro d i hd hi hn
    simp only [sandglassref03_Sum.l0]
    by_cases h : (i : Int) < (s.size : Int)
    · have hlt : i < s.size := by omega
      have hv : (s.data.toList.getD i 0).toNat < 256 := (s.data.toList.getD i 0).toNat_lt
      rw [if_pos h, if_pos (by omega), bt_at s i hlt, uw (x := ((s.data.toList.getD i 0).toNat : Int)) (by omega) (by omega), uw (by omega) (by omega), mix_r, Option.bind_some, wrT (by omega) (by omega)]
      have e : mixI (Go.bits .xor .u64 (sumL (mixI a) (s.data.toList.take i)) (((s.data.toList.getD i 0).toNat : Int) + 1)) = sumL (mixI a) (s.data.toList.take (i + 1)) := by
        rw [sum_take s i hlt, sumL_snoc]
      rw [e, show (i : Int) + 1 = ((i + 1 : Nat) : Int) by omega]
      exact ih (d - 1) (i + 1) (by omega) (by omega) (by omega)
    · rw [if_neg h, List.take_of_length_le (by simp; omega), uw (by omega) (by omega), mix_r, Option.bind_some]
      rfl
theorem sum_r (n : Nat) (a : Int) (s : ByteArray) (hs : s.size ≤ 1000) (hn : 1100 ≤ n) : sandglassref03_Sum.f n a s = some (sumI a s) := by
  unfold sandglassref03_Sum.f
  rw [mix_r, Option.bind_some]
  have := sum_l0 s (by omega) a n s.size 0 (by omega) (by omega) (by omega)
  simpa [sumL] using this
theorem home_r (sd : Int) (b : Nat) (key : ByteArray) (h0 : 1 ≤ b) (h1 : b ≤ 62) : sandglassref03_Home.f 1 (sumI sd key) (b : Int) = some (homeN sd b key : Int) := by
  obtain ⟨a1, q0, q1⟩ := home_at (sumI_U sd key) b h0 h1
  unfold sandglassref03_Home.f
  have e : wrap64 (64 - (b : Int)) = ((64 - b : Nat) : Int) := by rw [wrT (by omega) (by omega)]; omega
  have e2 : IntKind.u64.wrap ((64 - b : Nat) : Int) = ((64 - b : Nat) : Int) := uw (by omega) (by omega)
  have s : shr .u64 (sumI sd key) ((64 - b : Nat) : Int) = sumI sd key / 2 ^ (64 - b) := by
    unfold shr
    have : min (((64 - b : Nat) : Int)).toNat IntKind.u64.bits = 64 - b := by
      have : IntKind.u64.bits = 64 := rfl
      rw [this, Int.toNat_natCast]; omega
    rw [this]
  rw [if_neg (by omega), decide_eq_false (by omega)]
  have r : (2 : Int) ^ b ≤ 2 ^ 62 := by
    have : (2 : Nat) ^ b ≤ 2 ^ 62 := Nat.pow_le_pow_right (by omega) h1
    exact_mod_cast this
  simp only [sandglassref03_Home.j0, Bool.false_eq_true, if_false, e, e2]
  rw [if_pos (by omega), s, wrT (by omega) (by omega)]
  unfold homeN
  rw [Int.toNat_of_nonneg q0]
/-- Going from a key's home on, with what was found so far. -/
def scan (l : List Sl) (key : ByteArray) (h : Nat) : Nat → Nat → Bool → Int → Bool × Int
  | 0, _, fo, va => (fo, va)
  | r + 1, d, fo, va => if (sl l ((h + d) % l.length)).f0 = false ∨ (sl l ((h + d) % l.length)).f3 < (d : Int) then (fo, va) else if (sl l ((h + d) % l.length)).f1 = key then scan l key h r (d + 1) true (sl l ((h + d) % l.length)).f2 else scan l key h r (d + 1) fo va
theorem scan_none (l : List Sl) (key : ByteArray) (h : Nat) (fo : Bool) (va : Int) : ∀ r d, findL l key h r d = none → scan l key h r d fo va = (fo, va)
  | 0, d, _ => rfl
  | r + 1, d, e => by
    rw [findL] at e
    replace e : (if (sl l ((h + d) % l.length)).f0 = false then none else if (sl l ((h + d) % l.length)).f3 < (d : Int) then none else if (sl l ((h + d) % l.length)).f1 = key then some ((h + d) % l.length) else findL l key h r (d + 1)) = none := e
    rw [scan]
    by_cases h0 : (sl l ((h + d) % l.length)).f0 = false ∨ (sl l ((h + d) % l.length)).f3 < (d : Int)
    · rw [if_pos h0]
    · rw [if_neg h0]
      rw [if_neg (fun q => h0 (Or.inl q)), if_neg (fun q => h0 (Or.inr q))] at e
      by_cases h1 : (sl l ((h + d) % l.length)).f1 = key
      · rw [if_pos h1] at e; cases e
      · rw [if_neg h1] at e ⊢
        exact scan_none l key h fo va r (d + 1) e
theorem scan_kept (l : List Sl) (hn : 0 < l.length) (key : ByteArray) (h : Nat) (v : Int) (hv : ∀ j, j < l.length → (sl l j).f0 = true → (sl l j).f1 = key → (sl l j).f2 = v) : ∀ r d, scan l key h r d true v = (true, v)
  | 0, d => rfl
  | r + 1, d => by
    rw [scan]
    by_cases h0 : (sl l ((h + d) % l.length)).f0 = false ∨ (sl l ((h + d) % l.length)).f3 < (d : Int)
    · rw [if_pos h0]
    · rw [if_neg h0]
      by_cases h1 : (sl l ((h + d) % l.length)).f1 = key
      · rw [if_pos h1, hv _ (Nat.mod_lt _ hn) (by cases e : (sl l ((h + d) % l.length)).f0; exact absurd (Or.inl e) h0; rfl) h1]
        exact scan_kept l hn key h v hv r (d + 1)
      · rw [if_neg h1]; exact scan_kept l hn key h v hv r (d + 1)
theorem scan_some (l : List Sl) (hn : 0 < l.length) (key : ByteArray) (h : Nat) (v : Int) (hv : ∀ j, j < l.length → (sl l j).f0 = true → (sl l j).f1 = key → (sl l j).f2 = v) (i : Nat) : ∀ r d fo va, findL l key h r d = some i → scan l key h r d fo va = (true, v)
  | 0, d, fo, va, e => by cases e
  | r + 1, d, fo, va, e => by
    rw [findL] at e
    replace e : (if (sl l ((h + d) % l.length)).f0 = false then none else if (sl l ((h + d) % l.length)).f3 < (d : Int) then none else if (sl l ((h + d) % l.length)).f1 = key then some ((h + d) % l.length) else findL l key h r (d + 1)) = some i := e
    rw [scan]
    by_cases h0 : (sl l ((h + d) % l.length)).f0 = false
    · rw [if_pos h0] at e; cases e
    rw [if_neg h0] at e
    by_cases h2 : (sl l ((h + d) % l.length)).f3 < (d : Int)
    · rw [if_pos h2] at e; cases e
    rw [if_neg h2] at e
    rw [if_neg (fun q => q.elim h0 h2)]
    by_cases h1 : (sl l ((h + d) % l.length)).f1 = key
    · rw [if_pos h1, hv _ (Nat.mod_lt _ hn) (by cases e : (sl l ((h + d) % l.length)).f0; exact absurd e h0; rfl) h1]
      exact scan_kept l hn key h v hv r (d + 1)
    · rw [if_neg h1] at e ⊢
      exact scan_some l hn key h v hv i r (d + 1) fo va e
theorem TF.scan {sd : Int} {b : Nat} {l : List Sl} {us : Int} {f : KF} (h : TF sd b l us f) (key : ByteArray) {v : Int} {is : Bool} (hg : getF f key = (v, is)) : scan l key (homeN sd b key) l.length 0 false 0 = (is, v) := by
  unfold getF at hg
  rcases h.find key with ⟨h1, h2⟩ | ⟨i, v1, h1, h2, h3, h4, h5, h6⟩
  · rw [h1] at hg; cases hg
    exact scan_none l key _ false 0 _ _ h2
  · rw [h1] at hg; cases hg
    refine scan_some l (by omega) key _ v (fun j j1 j2 j3 => ?_) i _ _ false 0 h2
    rw [h.inv.uniq j i j1 h3 j2 h4 (j3.trans h5.symm)]
    exact h6
end Go.Proofs.Ytonafabgbkohlaa.La
