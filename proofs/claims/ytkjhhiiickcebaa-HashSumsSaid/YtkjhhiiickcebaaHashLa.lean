/- The functions of layer 3 (hash): mixing is taken back, and nothing is lost. -/
import Derived.Test.YtkjhhiiickcebaaQ4
import Derived.Test.YtkjhhiiickcebaaQ3
import Derived.Test.YtkjhhiiickcebaaQ5
import Derived.Test.YtkjhhiiickcebaaQ6
import Derived.Test.YtkjhhiiickcebaaQ7
import Derived.Laws.BitsAllLaws
import Derived.IntWalk
namespace Go.Proofs.Ytkjhhiiickcebaa.La
open Go.RowKit Go.Proofs.YtkjhhiiickcebaaW.PrintWords Go.Proofs.YtkjhhiiickcebaaW.PrintLast Go.Proofs.YtkjhhiiickcebaaW.PrintMore Go.Proofs.Ytkjhhiiickcebaa.Q
set_option linter.unusedSimpArgs false
set_option linter.unusedVariables false
theorem wr {x : Int} (h0 : -9223372036854775808 ≤ x) (h1 : x < 9223372036854775808) : wrap64 x = x := by unfold wrap64; omega
theorem uw {x : Int} (h0 : 0 ≤ x) (h1 : x ≤ 18446744073709551615) : IntKind.u64.wrap x = x := IntWalk.u64_in x ⟨h0, h1⟩
theorem uwm (x : Int) : IntKind.u64.wrap x = x % 18446744073709551616 := IntKind.wrap_u64 x
theorem u64_is {v : Int} (h : (Lit.int .u64 v).wf = true) : 0 ≤ v ∧ v ≤ 18446744073709551615 := by
  simp [Lit.wf, IntKind.min, IntKind.max, IntKind.signed, IntKind.bits] at h
  omega
theorem u8_is {v : Int} (h : (Lit.int .u8 v).wf = true) : 0 ≤ v ∧ v ≤ 255 := by
  simp [Lit.wf, IntKind.min, IntKind.max, IntKind.signed, IntKind.bits] at h
  omega
theorem i64_is {v : Int} (h : (Lit.int .i64 v).wf = true) : -9223372036854775808 ≤ v ∧ v ≤ 9223372036854775807 := by
  simp [Lit.wf, IntKind.min, IntKind.max, IntKind.signed, IntKind.bits] at h
  omega
/-- A number that fits into 64 bits. -/
def U (x : Int) : Prop := 0 ≤ x ∧ x ≤ 18446744073709551615
theorem U.wrap (x : Int) : U (IntKind.u64.wrap x) := by rw [uwm]; unfold U; omega
theorem U.nat {x : Int} (h : U x) : ∃ n : Nat, x = n ∧ n < 18446744073709551616 := ⟨x.toNat, by unfold U at h; omega, by unfold U at h; omega⟩
theorem U.xor (a b : Int) : U (Go.bits .xor .u64 a b) := by unfold Go.bits; exact U.wrap _
theorem xor_nat {a b : Nat} (ha : a < 18446744073709551616) (hb : b < 18446744073709551616) : Go.bits .xor .u64 (a : Int) (b : Int) = ((a ^^^ b : Nat) : Int) := bits_xor_u64_nat a b ha hb
theorem xor_lt {a b : Nat} (ha : a < 18446744073709551616) (hb : b < 18446744073709551616) : a ^^^ b < 18446744073709551616 := Nat.xor_lt_two_pow (n := 64) ha hb
theorem nat_xor_cancel (a b c : Nat) (h : a ^^^ b = a ^^^ c) : b = c := by
  have := congrArg (a ^^^ ·) h
  simpa [← Nat.xor_assoc] using this
theorem xor_left {a b c : Int} (ha : U a) (hb : U b) (hc : U c) (h : Go.bits .xor .u64 a b = Go.bits .xor .u64 a c) : b = c := by
  obtain ⟨a, rfl, ha'⟩ := ha.nat
  obtain ⟨b, rfl, hb'⟩ := hb.nat
  obtain ⟨c, rfl, hc'⟩ := hc.nat
  rw [xor_nat ha' hb', xor_nat ha' hc'] at h
  have := nat_xor_cancel a b c (by omega)
  omega
theorem xor_right {a b c : Int} (ha : U a) (hb : U b) (hc : U c) (h : Go.bits .xor .u64 b a = Go.bits .xor .u64 c a) : b = c := by
  obtain ⟨a, rfl, ha'⟩ := ha.nat
  obtain ⟨b, rfl, hb'⟩ := hb.nat
  obtain ⟨c, rfl, hc'⟩ := hc.nat
  rw [xor_nat hb' ha', xor_nat hc' ha'] at h
  have := nat_xor_cancel a b c (by rw [Nat.xor_comm a b, Nat.xor_comm a c]; omega)
  omega

/-- On natural numbers. -/
theorem sh (x s : Nat) : x / 2 ^ s = x >>> s := (Nat.shiftRight_eq_div_pow x s).symm
theorem sh_zero {x s : Nat} (hx : x < 18446744073709551616) (hs : 64 ≤ s) : x >>> s = 0 := by
  rw [Nat.shiftRight_eq_div_pow]
  apply Nat.div_eq_of_lt
  have : 2 ^ 64 ≤ 2 ^ s := Nat.pow_le_pow_right (by omega) hs
  have e : (2 : Nat) ^ 64 = 18446744073709551616 := rfl
  omega
theorem back32 {x : Nat} (hx : x < 18446744073709551616) : (x ^^^ x >>> 32) ^^^ (x ^^^ x >>> 32) >>> 32 = x := by
  simp only [Nat.shiftRight_xor_distrib, ← Nat.shiftRight_add]
  rw [sh_zero (s := 32 + 32) hx (by omega), Nat.xor_zero, Nat.xor_assoc, Nat.xor_self, Nat.xor_zero]
theorem there29 {x : Nat} (hx : x < 18446744073709551616) : (x ^^^ x >>> 29) ^^^ ((x ^^^ x >>> 29) ^^^ (x ^^^ x >>> 29) >>> 29) >>> 29 = x := by
  simp only [Nat.shiftRight_xor_distrib, ← Nat.shiftRight_add]
  rw [sh_zero (s := 29 + (29 + 29)) hx (by omega), Nat.xor_zero]
  generalize x >>> 29 = a
  generalize x >>> (29 + 29) = b
  rw [Nat.xor_assoc a b b, Nat.xor_self, Nat.xor_zero, Nat.xor_assoc, Nat.xor_self, Nat.xor_zero]
theorem back29 {x : Nat} (hx : x < 18446744073709551616) : (x ^^^ (x ^^^ x >>> 29) >>> 29) ^^^ (x ^^^ (x ^^^ x >>> 29) >>> 29) >>> 29 = x := by
  simp only [Nat.shiftRight_xor_distrib, ← Nat.shiftRight_add]
  rw [sh_zero (s := 29 + (29 + 29)) hx (by omega), Nat.xor_zero]
  generalize x >>> 29 = a
  generalize x >>> (29 + 29) = b
  rw [Nat.xor_assoc x, Nat.xor_self, Nat.xor_zero]
def mN1 (n : Nat) : Nat := (n ^^^ n >>> 32) * 11400714819323198485 % 18446744073709551616
def mN2 (n : Nat) : Nat := (n ^^^ n >>> 29) * 13787848793156543929 % 18446744073709551616
def mN3 (n : Nat) : Nat := n ^^^ n >>> 32
def uN2 (n : Nat) : Nat := n * 10871156337175269513 % 18446744073709551616 ^^^ (n * 10871156337175269513 % 18446744073709551616 ^^^ (n * 10871156337175269513 % 18446744073709551616) >>> 29) >>> 29
def uN3 (n : Nat) : Nat := n * 17428512612931826493 % 18446744073709551616 ^^^ (n * 17428512612931826493 % 18446744073709551616) >>> 32
theorem shr_lt {x : Nat} (hx : x < 18446744073709551616) (s : Nat) : x >>> s < 18446744073709551616 := Nat.lt_of_le_of_lt (Nat.shiftRight_le x s) hx
theorem mod_lt' (x : Nat) : x % 18446744073709551616 < 18446744073709551616 := Nat.mod_lt _ (by omega)
theorem mN1_lt (n : Nat) : mN1 n < 18446744073709551616 := mod_lt' _
theorem mN2_lt (n : Nat) : mN2 n < 18446744073709551616 := mod_lt' _
theorem mN3_lt {n : Nat} (h : n < 18446744073709551616) : mN3 n < 18446744073709551616 := xor_lt h (shr_lt h 32)
theorem uN2_lt (n : Nat) : uN2 n < 18446744073709551616 := xor_lt (mod_lt' _) (shr_lt (xor_lt (mod_lt' _) (shr_lt (mod_lt' _) 29)) 29)
theorem uN3_lt (n : Nat) : uN3 n < 18446744073709551616 := xor_lt (mod_lt' _) (shr_lt (mod_lt' _) 32)
theorem mul_back {n c i q : Nat} (h : c * i = 1 + 18446744073709551616 * q) (hn : n < 18446744073709551616) : n * c % 18446744073709551616 * i % 18446744073709551616 = n := by
  rw [Nat.mod_mul_mod, Nat.mul_assoc, h, Nat.mul_add, Nat.mul_one, Nat.mul_left_comm, Nat.add_mul_mod_self_left, Nat.mod_eq_of_lt hn]
theorem c1_i1 : 11400714819323198485 * 17428512612931826493 = 1 + 18446744073709551616 * 10771413168148108919 := by decide
theorem i1_c1 : 17428512612931826493 * 11400714819323198485 = 1 + 18446744073709551616 * 10771413168148108919 := by decide
theorem c2_i2 : 13787848793156543929 * 10871156337175269513 = 1 + 18446744073709551616 * 8125545580553827436 := by decide
theorem i2_c2 : 10871156337175269513 * 13787848793156543929 = 1 + 18446744073709551616 * 8125545580553827436 := by decide
theorem u3_m1 {n : Nat} (h : n < 18446744073709551616) : uN3 (mN1 n) = n := by
  unfold uN3 mN1
  rw [mul_back c1_i1 (xor_lt h (shr_lt h 32))]
  exact back32 h
theorem m1_u3 {n : Nat} (h : n < 18446744073709551616) : mN1 (uN3 n) = n := by
  unfold uN3 mN1
  rw [back32 (mod_lt' _)]
  exact mul_back i1_c1 h
theorem u2_m2 {n : Nat} (h : n < 18446744073709551616) : uN2 (mN2 n) = n := by
  unfold uN2 mN2
  rw [mul_back c2_i2 (xor_lt h (shr_lt h 29))]
  exact there29 h
theorem m2_u2 {n : Nat} (h : n < 18446744073709551616) : mN2 (uN2 n) = n := by
  unfold uN2 mN2
  rw [back29 (mod_lt' _)]
  exact mul_back i2_c2 h

/-- The printed steps are those. -/
theorem mix1_nat {n : Nat} (h : n < 18446744073709551616) : mix1 (n : Int) = (mN1 n : Int) := by
  unfold mix1 mN1
  rw [← sh]
  exact mixStep_u64 n 4294967296 11400714819323198485 h
theorem mix2_nat {n : Nat} (h : n < 18446744073709551616) : mix2 (n : Int) = (mN2 n : Int) := by
  unfold mix2 mN2
  rw [← sh]
  exact mixStep_u64 n 536870912 13787848793156543929 h
theorem xs_nat {n : Nat} (h : n < 18446744073709551616) (s : Nat) : Go.bits .xor .u64 (n : Int) ((n : Int) / ((2 ^ s : Nat) : Int)) = ((n ^^^ n >>> s : Nat) : Int) := by
  rw [← sh]
  exact xorShift_u64 n (2 ^ s) h
theorem mix3_nat {n : Nat} (h : n < 18446744073709551616) : mix3 (n : Int) = (mN3 n : Int) := by
  have e := xs_nat h 32
  have e2 : ((2 ^ 32 : Nat) : Int) = 4294967296 := rfl
  rw [e2] at e
  unfold mix3 mN3
  rw [Int.mul_one, e, uw (by omega) (by have := xor_lt h (shr_lt h 32); omega)]
theorem un1_nat {n : Nat} (h : n < 18446744073709551616) : un1 (n : Int) = (mN3 n : Int) := by
  have e := xs_nat h 32
  have e2 : ((2 ^ 32 : Nat) : Int) = 4294967296 := rfl
  rw [e2] at e
  unfold un1 mN3
  rw [uw (x := (n : Int)) (by omega) (by omega), e]
theorem mul_nat (n c : Nat) : IntKind.u64.wrap ((n : Int) * (c : Int)) = ((n * c % 18446744073709551616 : Nat) : Int) := by
  rw [uwm, Int.natCast_emod, Int.natCast_mul]; rfl
theorem un2_nat {n : Nat} (h : n < 18446744073709551616) : un2 (n : Int) = (uN2 n : Int) := by
  have m := mul_nat n 10871156337175269513
  have e1 : ((10871156337175269513 : Nat) : Int) = 10871156337175269513 := rfl
  rw [e1] at m
  have k := mod_lt' (n * 10871156337175269513)
  unfold un2 uN2
  rw [m]
  generalize n * 10871156337175269513 % 18446744073709551616 = q at *
  have e := xs_nat k 29
  have e2 : ((2 ^ 29 : Nat) : Int) = 536870912 := rfl
  rw [e2] at e
  rw [e]
  have d : Int.ediv ((q ^^^ q >>> 29 : Nat) : Int) 536870912 = (((q ^^^ q >>> 29) >>> 29 : Nat) : Int) := by rw [← sh (q ^^^ q >>> 29) 29]; rfl
  have d2 : ∀ x : Int, x / 536870912 = Int.ediv x 536870912 := fun _ => rfl
  rw [d2]
  rw [d, xor_nat k (shr_lt (xor_lt k (shr_lt k 29)) 29)]
theorem un3_nat {n : Nat} (h : n < 18446744073709551616) : un3 (n : Int) = (uN3 n : Int) := by
  have m := mul_nat n 17428512612931826493
  have e1 : ((17428512612931826493 : Nat) : Int) = 17428512612931826493 := rfl
  rw [e1] at m
  have k := mod_lt' (n * 17428512612931826493)
  unfold un3 uN3
  rw [m]
  generalize n * 17428512612931826493 % 18446744073709551616 = q at *
  have e := xs_nat k 32
  have e2 : ((2 ^ 32 : Nat) : Int) = 4294967296 := rfl
  rw [e2] at e
  rw [e]
def unI (n : Int) : Int := un3 (un2 (un1 n))
theorem U.mk {n : Nat} (h : n < 18446744073709551616) : U (n : Int) := by unfold U; omega
theorem U.mix {a : Int} (h : U a) : U (mixI a) := by unfold mixI mix3; exact U.wrap _
theorem un_mix {a : Int} (h : U a) : unI (mixI a) = a := by
  obtain ⟨n, rfl, h'⟩ := h.nat
  clear h
  have h := h'
  unfold unI mixI
  rw [mix1_nat h, mix2_nat (mN1_lt n), mix3_nat (mN2_lt _), un1_nat (mN3_lt (mN2_lt _)), show mN3 (mN3 (mN2 (mN1 n))) = mN2 (mN1 n) from back32 (mN2_lt _), un2_nat (mN2_lt _), u2_m2 (mN1_lt n), un3_nat (mN1_lt n), u3_m1 h]
theorem mix_un {a : Int} (h : U a) : mixI (unI a) = a := by
  obtain ⟨n, rfl, h'⟩ := h.nat
  clear h
  have h := h'
  unfold unI mixI
  rw [un1_nat h, un2_nat (mN3_lt h), un3_nat (uN2_lt _), mix1_nat (uN3_lt _), m1_u3 (uN2_lt _), mix2_nat (uN2_lt _), m2_u2 (mN3_lt h), mix3_nat (mN3_lt h), show mN3 (mN3 n) = n from back32 h]
theorem U.un {a : Int} (h : U a) : U (unI a) := by
  obtain ⟨n, rfl, h'⟩ := h.nat
  clear h
  have h := h'
  unfold unI
  rw [un1_nat h, un2_nat (mN3_lt h), un3_nat (uN2_lt _)]
  exact U.mk (uN3_lt _)
theorem mix_inj {a b : Int} (ha : U a) (hb : U b) (h : mixI a = mixI b) : a = b := by
  rw [← un_mix ha, ← un_mix hb, h]
/-- Sums: nothing that came ahead is lost. -/
theorem U.byte (b : UInt8) : U ((b.toNat : Int) + 1) := by have := b.toNat_lt; unfold U; omega
theorem U.sum {h : Int} (hh : U h) (l : List UInt8) : U (sumL h l) := by
  unfold sumL
  induction l generalizing h with
  | nil => exact hh
  | cons b l ih => exact ih (U.mix (U.xor _ _))
theorem sumL_inj {l : List UInt8} : ∀ {a b : Int}, U a → U b → sumL a l = sumL b l → a = b := by
  induction l with
  | nil => intro a b _ _ h; exact h
  | cons c l ih =>
    intro a b ha hb h
    have := ih (U.mix (U.xor a _)) (U.mix (U.xor b _)) (show sumL (mixI (Go.bits .xor .u64 a ((c.toNat : Int) + 1))) l = sumL (mixI (Go.bits .xor .u64 b ((c.toNat : Int) + 1))) l from h)
    exact xor_right (U.byte c) ha hb (mix_inj (U.xor _ _) (U.xor _ _) this)
theorem U.size {s : ByteArray} (h : s.size ≤ 1000000) : U (s.size : Int) := by unfold U; omega
theorem U.sumI {a : Int} (s : ByteArray) : U (sumI a s) := by unfold Go.Proofs.Ytkjhhiiickcebaa.Q.sumI; exact U.mix (U.xor _ _)
/-- Two sums of texts of one length are the same just where what was there ahead of the length is. -/
theorem sumI_iff {a b : Int} {s t : ByteArray} (ha : U a) (hb : U b) (hs : s.size ≤ 1000000) (hz : s.size = t.size) : sumI a s = sumI b t ↔ sumL (mixI a) s.data.toList = sumL (mixI b) t.data.toList := by
  constructor
  · intro h
    unfold sumI at h
    have h1 := mix_inj (U.xor _ _) (U.xor _ _) h
    rw [← hz] at h1
    exact xor_right (U.size hs) (U.sum (U.mix ha) _) (U.sum (U.mix hb) _) h1
  · intro h
    unfold sumI
    rw [h, hz]
theorem sumI_seed {a b : Int} {s : ByteArray} (ha : U a) (hb : U b) (hs : s.size ≤ 1000000) : sumI a s = sumI b s ↔ a = b := by
  rw [sumI_iff ha hb hs rfl]
  constructor
  · intro h; exact mix_inj ha hb (sumL_inj (U.mix ha) (U.mix hb) h)
  · intro h; rw [h]
theorem beq_iff {a b c d : Int} (h : a = b ↔ c = d) : ((a == b) == (c == d)) = true := by
  by_cases hc : c = d
  · have := h.2 hc
    rw [this, hc]; simp
  · have : ¬ a = b := fun e => hc (h.1 e)
    have e1 : (a == b) = false := by simpa using this
    have e2 : (c == d) = false := by simpa using hc
    rw [e1, e2]; rfl
theorem no_rfl {α : Type} {a b : α} (h : a = b) : a = b := by cases h; rfl
theorem mix_f (a : Int) : hash_Mix.f a = some (mixI a) := no_rfl (show some (mix3 (mix2 (mix1 a))) = some (mixI a) from rfl)
theorem unmix_f (a : Int) : hash_Unmix.f a = some (unI a) := no_rfl (show some (un3 (un2 (un1 a))) = some (unI a) from rfl)
theorem sum_f (a : Int) (s : ByteArray) (h : s.size ≤ 1000000) : hash_Sum.f a s = some (sumI a s) := by unfold hash_Sum.f; rw [if_pos (by omega)]
theorem live_ok : sandglasslaw03_live.f 40 = some true := by decide +kernel
theorem live_up (n : Nat) : sandglasslaw03_live.f (40 + n) = some true := by
  induction n with
  | zero => exact live_ok
  | succ n ih => exact sandglasslaw03_live.mono (40 + n) _ ih
theorem live_at {n : Nat} (h : 40 ≤ n) : sandglasslaw03_live.f n = some true := by
  have := live_up (n - 40)
  rwa [show 40 + (n - 40) = n by omega] at this
end Go.Proofs.Ytkjhhiiickcebaa.La
