/- HashSums: proved of the printed functions. -/
import Derived.Test.YtkjhhiiickcebaaStHashSums
import Derived.Test.YtkjhhiiickcebaaHashLa
namespace Go.Proofs.Ytkjhhiiickcebaa.hashSums
open Go.RowKit Go.Proofs.YtkjhhiiickcebaaW.PrintWords Go.Proofs.YtkjhhiiickcebaaW.PrintLast Go.Proofs.YtkjhhiiickcebaaW.PrintMore Go.Proofs.Ytkjhhiiickcebaa.Q Go.Proofs.Ytkjhhiiickcebaa.La
set_option linter.unusedSimpArgs false
set_option linter.unusedVariables false
theorem wrap_u {x : Int} (h : U x) : IntKind.u64.wrap x = x := uw h.1 h.2
theorem mix_r (a : Int) : sandglassref03_Mix.f a = some (mixI a) := by
  unfold sandglassref03_Mix.f mixI mix3 mix2 mix1
  rw [Int.mul_one, wrap_u (U.xor _ _)]
theorem bt_at (s : ByteArray) (i : Nat) (h : i < s.size) : bt s i = ((s.data.toList.getD i 0).toNat : Int) := by
  unfold bt
  rw [dif_pos (by simpa using h)]
  rw [List.getD_eq_getElem?_getD, List.getElem?_eq_getElem (by simpa using h)]; rfl
theorem sum_l0 (s : ByteArray) (hs : s.size ≤ 1000000) (a : Int) (n : Nat) : ∀ (d i : Nat), s.size - i = d → i ≤ s.size → d < n → sandglassref03_Sum.l0 n s (sumL (mixI a) (s.data.toList.take i)) (i : Int) = some (sumI a s) := by
  induction n with
  | zero => intro d i _ _ h; omega
  | succ n ih =>
    intro d i hd hi hn
    simp only [sandglassref03_Sum.l0]
    by_cases h : (i : Int) < (s.size : Int)
    · have hlt : i < s.size := by omega
      have hv : (s.data.toList.getD i 0).toNat < 256 := (s.data.toList.getD i 0).toNat_lt
      rw [if_pos h, if_pos (by omega), bt_at s i hlt, uw (x := ((s.data.toList.getD i 0).toNat : Int)) (by omega) (by omega), uw (by omega) (by omega), mix_r, Option.bind_some, wr (by omega) (by omega)]
      have e : mixI (Go.bits .xor .u64 (sumL (mixI a) (s.data.toList.take i)) (((s.data.toList.getD i 0).toNat : Int) + 1)) = sumL (mixI a) (s.data.toList.take (i + 1)) := by
        rw [sum_take s i hlt, sumL_snoc]
      rw [e, show (i : Int) + 1 = ((i + 1 : Nat) : Int) by omega]
      exact ih (d - 1) (i + 1) (by omega) (by omega) (by omega)
    · rw [if_neg h, List.take_of_length_le (by simp; omega), uw (by omega) (by omega), mix_r, Option.bind_some]
      rfl
theorem sum_r (n : Nat) (a : Int) (s : ByteArray) (hs : s.size ≤ 1000) (hn : 1100 ≤ n) : sandglassref03_Sum.f n a s = some (sumI a s) := by
  unfold sandglassref03_Sum.f
  rw [mix_r, Option.bind_some]
  have := sum_l0 s (by omega) a n s.size 0 (by omega) (by omega) (by omega)
  simpa [sumL] using this
/-- A round that changes nothing more. -/
theorem back_fix (x y : Int) (by_ : Int) (h0 : 0 ≤ by_) (hf : Go.bits .xor .u64 x (shr .u64 y by_) = y) (n : Nat) : ∀ (d : Nat) (i : Int), 0 ≤ i → 64 - i ≤ d → d < n → sandglassref03_back.l0 n x by_ y i = some y := by
  induction n with
  | zero => intro d i _ _ h; omega
  | succ n ih =>
    intro d i hi hd hn
    rw [sandglassref03_back.l0]
    by_cases h : i < 64
    · rw [if_pos h, if_pos h0, hf, wr (by omega) (by omega)]
      exact ih (d - 1) (i + 1) (by omega) (by omega) (by omega)
    · rw [if_neg h]
theorem shr_at (y : Int) (s : Nat) (h : s ≤ 64) : shr .u64 y (s : Int) = y / ((2 ^ s : Nat) : Int) := by
  unfold shr
  have : min ((s : Int)).toNat IntKind.u64.bits = s := by
    have : IntKind.u64.bits = 64 := rfl
    rw [this, Int.toNat_natCast]; omega
  rw [this]; simp
theorem div_sh (x s : Nat) : ((x : Int) / ((2 ^ s : Nat) : Int)) = ((x >>> s : Nat) : Int) := by
  rw [← sh]; rfl
theorem back_32 (n : Nat) (hn : 100 ≤ n) {x : Nat} (hx : x < 18446744073709551616) : sandglassref03_back.f n (x : Int) 32 = some ((x ^^^ x >>> 32 : Nat) : Int) := by
  obtain ⟨n, rfl⟩ : ∃ m, n = m + 1 := ⟨n - 1, by omega⟩
  have e : ∀ y : Nat, y < 18446744073709551616 → Go.bits .xor .u64 (x : Int) (shr .u64 (y : Int) 32) = ((x ^^^ y >>> 32 : Nat) : Int) := by
    intro y hy
    rw [show (32 : Int) = ((32 : Nat) : Int) from rfl, shr_at _ 32 (by omega), div_sh, xor_nat hx (shr_lt hy 32)]
  unfold sandglassref03_back.f
  rw [sandglassref03_back.l0, if_pos (by omega), if_pos (by omega), e x hx]
  refine back_fix _ _ 32 (by omega) ?_ n 63 _ (by rw [wr (by omega) (by omega)]; omega) (by rw [wr (by omega) (by omega)]; omega) (by omega)
  rw [e _ (xor_lt hx (shr_lt hx 32)), Nat.shiftRight_xor_distrib, ← Nat.shiftRight_add, sh_zero (s := 32 + 32) hx (by omega), Nat.xor_zero]
theorem back_29 (n : Nat) (hn : 100 ≤ n) {x : Nat} (hx : x < 18446744073709551616) : sandglassref03_back.f n (x : Int) 29 = some ((x ^^^ (x ^^^ x >>> 29) >>> 29 : Nat) : Int) := by
  obtain ⟨n, rfl⟩ : ∃ m, n = m + 2 := ⟨n - 2, by omega⟩
  have e : ∀ y : Nat, y < 18446744073709551616 → Go.bits .xor .u64 (x : Int) (shr .u64 (y : Int) 29) = ((x ^^^ y >>> 29 : Nat) : Int) := by
    intro y hy
    rw [show (29 : Int) = ((29 : Nat) : Int) from rfl, shr_at _ 29 (by omega), div_sh, xor_nat hx (shr_lt hy 29)]
  have y1 := xor_lt hx (shr_lt hx 29)
  have y2 := xor_lt hx (shr_lt y1 29)
  unfold sandglassref03_back.f
  rw [sandglassref03_back.l0, if_pos (by omega), if_pos (by omega), e x hx, sandglassref03_back.l0, if_pos (by rw [wr (by omega) (by omega)]; omega), if_pos (by omega), e _ y1]
  refine back_fix _ _ 29 (by omega) ?_ n 62 _ ?_ ?_ (by omega)
  · rw [e _ y2]
    simp only [Nat.shiftRight_xor_distrib, ← Nat.shiftRight_add]
    rw [sh_zero (s := 29 + (29 + 29)) hx (by omega), Nat.xor_zero]
  · rw [wr (x := 0 + 1) (by omega) (by omega), wr (by omega) (by omega)]; omega
  · rw [wr (x := 0 + 1) (by omega) (by omega), wr (by omega) (by omega)]; omega
theorem odd_up {c v : Int} (h : sandglassref03_odd.f 20 c = some v) (n : Nat) : sandglassref03_odd.f (20 + n) c = some v := by
  induction n with
  | zero => exact h
  | succ n ih => exact sandglassref03_odd.mono c (20 + n) _ ih
theorem odd_2 : sandglassref03_odd.f 20 13787848793156543929 = some 10871156337175269513 := by decide +kernel
theorem odd_1 : sandglassref03_odd.f 20 11400714819323198485 = some 17428512612931826493 := by decide +kernel
theorem unmix_r {n : Nat} (hn : 200 ≤ n) {a : Int} (ha : U a) : sandglassref03_Unmix.f n a = some (unI a) := by
  obtain ⟨x, rfl, hx⟩ := ha.nat
  have o1 := odd_up odd_1 (n - 20)
  have o2 := odd_up odd_2 (n - 20)
  rw [show 20 + (n - 20) = n by omega] at o1 o2
  have m2 := mul_nat (mN3 x) 10871156337175269513
  have e2 : ((10871156337175269513 : Nat) : Int) = 10871156337175269513 := rfl
  rw [e2] at m2
  have m1 := mul_nat (uN2 (mN3 x)) 17428512612931826493
  have e1 : ((17428512612931826493 : Nat) : Int) = 17428512612931826493 := rfl
  rw [e1] at m1
  unfold sandglassref03_Unmix.f unI
  rw [back_32 n (by omega) hx, Option.bind_some, o2, Option.bind_some, show ((x ^^^ x >>> 32 : Nat) : Int) = (mN3 x : Int) from rfl, m2, back_29 n (by omega) (mod_lt' _), Option.bind_some, o1, Option.bind_some]
  rw [show mN3 x * 10871156337175269513 % 18446744073709551616 ^^^ (mN3 x * 10871156337175269513 % 18446744073709551616 ^^^ (mN3 x * 10871156337175269513 % 18446744073709551616) >>> 29) >>> 29 = uN2 (mN3 x) from rfl, m1, back_32 n (by omega) (mod_lt' _), Option.bind_some, un1_nat hx, un2_nat (mN3_lt hx), un3_nat (uN2_lt _)]
  rfl
theorem home_r {n : Nat} (hn : 1 ≤ n) {a : Int} (ha : U a) (b : Int) (hb : -9223372036854775808 ≤ b ∧ b ≤ 9223372036854775807) : sandglassref03_Home.f n a b = hash_Home.f n a b := by
  obtain ⟨n, rfl⟩ : ∃ m, n = m + 1 := ⟨n - 1, by omega⟩
  unfold sandglassref03_Home.f hash_Home.f
  by_cases h1 : b < 1
  · rw [if_pos h1, if_pos h1]; simp [sandglassref03_Home.j0, hash_Home.j0]
  rw [if_neg h1, if_neg h1]
  by_cases h2 : b > 62
  · rw [decide_eq_true h2]; simp [sandglassref03_Home.j0, hash_Home.j0]
  rw [decide_eq_false h2]
  simp only [sandglassref03_Home.j0, hash_Home.j0, Bool.false_eq_true, if_false]
  rw [wr (x := 64 - b) (by omega) (by omega), uw (by omega) (by omega)]
theorem home_some {n : Nat} (hn : 1 ≤ n) (a b : Int) (hb : -9223372036854775808 ≤ b ∧ b ≤ 9223372036854775807) : ∃ v, hash_Home.f n a b = some v := by
  obtain ⟨n, rfl⟩ : ∃ m, n = m + 1 := ⟨n - 1, by omega⟩
  unfold hash_Home.f
  by_cases h1 : b < 1
  · rw [if_pos h1]; simp [hash_Home.j0]
  rw [if_neg h1]
  by_cases h2 : b > 62
  · rw [decide_eq_true h2]; simp [hash_Home.j0]
  rw [decide_eq_false h2]
  simp only [hash_Home.j0, Bool.false_eq_true, if_false]
  rw [wr (x := 64 - b) (by omega) (by omega), if_pos (by omega)]
  exact ⟨_, rfl⟩
theorem pure : Pure := by
  intro a s b c wa hs wb wc
  have ha : U a := u64_is wa
  have hb := i64_is wb
  have hc := i64_is wc
  refine ⟨2000, ?_⟩
  unfold sandglasslaw03_HashSums.f
  by_cases h : (s.size : Int) > 100
  · rw [if_pos h, live_at (by omega), Option.bind_some]
  rw [if_neg h]
  have hz : s.size ≤ 1000 := by omega
  obtain ⟨v, hv⟩ := home_some (show 1 ≤ 2000 by omega) a c hc
  unfold hash_Name.f sandglassref03_Name.f
  rw [sum_f a s (by omega), Option.bind_some, sum_r 2000 a s hz (by omega), Option.bind_some, if_pos rfl]
  rw [mix_f (Go.bits .xor .u64 a (IntKind.u64.wrap b)), Option.bind_some, sum_f _ s (by omega), Option.bind_some, Option.bind_some, mix_r (Go.bits .xor .u64 a (IntKind.u64.wrap b)), Option.bind_some, sum_r 2000 _ s hz (by omega), Option.bind_some, Option.bind_some, if_pos rfl]
  rw [hv, Option.bind_some, home_r (by omega) ha c hc, hv, Option.bind_some, if_pos rfl, mix_f a, Option.bind_some, mix_r a, Option.bind_some, if_pos rfl, unmix_f a, Option.bind_some, unmix_r (by omega) ha, Option.bind_some, if_pos rfl, live_at (by omega), Option.bind_some]
end Go.Proofs.Ytkjhhiiickcebaa.hashSums
