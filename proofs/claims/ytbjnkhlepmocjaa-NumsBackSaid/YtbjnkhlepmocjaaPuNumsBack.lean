/- NumsBack: proved of the printed functions. -/
import Derived.Test.YtbjnkhlepmocjaaStNumsBack
import Derived.Test.YtbjnkhlepmocjaaNumsLb
namespace Go.Proofs.Ytbjnkhlepmocjaa.numsBack
open Go.RowKit Go.Proofs.YtbjnkhlepmocjaaW.PrintWords Go.Proofs.YtbjnkhlepmocjaaW.PrintLast Go.Proofs.YtbjnkhlepmocjaaW.PrintMore Go.Proofs.Ytbjnkhlepmocjaa.Q Go.Proofs.Ytbjnkhlepmocjaa.La
set_option linter.unusedSimpArgs false
set_option linter.unusedVariables false
theorem wideL_succ (x : Int) (hx : 0 ≤ x) (w : Nat) : wideL x (w + 1) = wideL (x / 256) w ++ [x % 256] := by
  unfold wideL
  rw [List.range_succ, List.map_append]
  congr 1
  · apply List.map_congr_left
    intro i hi
    have hi := List.mem_range.1 hi
    have hp : (0 : Int) ≤ 256 := by omega
    rw [Int.ediv_ediv_of_nonneg hp, show w + 1 - 1 - i = (w - 1 - i) + 1 by omega, Int.pow_succ, Int.mul_comm (256 ^ (w - 1 - i)) 256]
  · simp
theorem byte_of {n : Int} (h0 : 0 ≤ n) (h1 : n < 256) : ((UInt8.ofNat n.toNat).toNat : Int) = n := by
  have : n.toNat % 256 = n.toNat := Nat.mod_eq_of_lt (by omega)
  simp [UInt8.toNat_ofNat]; omega
theorem mod_join (x p : Int) (hp : 0 < p) : x / 256 % p * 256 + x % 256 = x % (256 * p) := by
  have e1 := Int.emod_add_mul_ediv x 256
  have e2 := Int.emod_add_mul_ediv (x / 256) p
  have b1 := Int.emod_nonneg (x / 256) (show p ≠ 0 by omega)
  have b2 := Int.emod_lt_of_pos (x / 256) hp
  generalize hq : x / 256 = q at *
  generalize hr : x % 256 = r at *
  have e3 : x = (q % p * 256 + r) + 256 * p * (q / p) := by
    have : 256 * p * (q / p) = 256 * (p * (q / p)) := Int.mul_assoc _ _ _
    rw [this]; omega
  have e4 := Int.emod_eq_of_lt (a := q % p * 256 + r) (b := 256 * p) (by omega) (by omega)
  have e5 := Int.add_mul_emod_self_left (q % p * 256 + r) (256 * p) (q / p)
  rw [← e3, e4] at e5
  exact e5.symm
theorem numL_wide (w : Nat) : ∀ (x : Int), 0 ≤ x → numL (strOfNums (wideL x w)).data.toList = x % 256 ^ w := by
  induction w with
  | zero => intro x hx; simp [strOfNums_data, wideL, numL, Int.emod_one]
  | succ w ih =>
    intro x hx
    have h1 := ih (x / 256) (Int.ediv_nonneg hx (by omega))
    rw [strOfNums_data] at h1 ⊢
    rw [wideL_succ x hx, List.map_append, List.map_singleton, numL_snoc, h1, byte_of (Int.emod_nonneg x (by omega)) (Int.emod_lt_of_pos x (by omega)), Int.pow_succ, Int.mul_comm (256 ^ w) 256]
    have hp : (0 : Int) < 256 ^ w := Int.pow_pos (by omega)
    exact mod_join x _ hp
theorem drop_mid (a b c : ByteArray) : (((a ++ b) ++ c).data.toList.drop a.size).take b.size = b.data.toList := by
  simp
theorem and_low (n : Int) (h0 : 0 ≤ n) (h1 : n ≤ 18446744073709551615) (w : Nat) (hw : w < 8) : Go.bits .and .u64 n (IntKind.u64.wrap ((shl .u64 1 (IntKind.u64.wrap (wrap64 (8 * (w : Int))))) - 1)) = n % 256 ^ w := by
  have p2 : (2 : Int) ^ (8 * w) ≤ 2 ^ 56 := by
    have : (2 : Nat) ^ (8 * w) ≤ 2 ^ 56 := Nat.pow_le_pow_right (by omega) (by omega)
    exact_mod_cast this
  have p0 : (0 : Int) < 2 ^ (8 * w) := Int.pow_pos (by omega)
  have e1 : IntKind.u64.wrap (wrap64 (8 * (w : Int))) = ((8 * w : Nat) : Int) := by rw [wr (by omega) (by omega), uw (by omega) (by omega)]; omega
  have e2 : shl .u64 1 ((8 * w : Nat) : Int) = 2 ^ (8 * w) := by
    unfold shl
    have : min (((8 * w : Nat) : Int)).toNat IntKind.u64.bits = 8 * w := by
      have : IntKind.u64.bits = 64 := rfl
      rw [this, Int.toNat_natCast]; omega
    rw [this, Int.one_mul, uw (by omega) (by omega)]
  rw [e1, e2, uw (by omega) (by omega), u64_and _ _ h0 (by omega) (by omega) (by omega), ← pow8]
  have e3 : ((2 : Int) ^ (8 * w) - 1).toNat = 2 ^ (8 * w) - 1 := by
    have : ((2 ^ (8 * w) : Nat) : Int) = (2 : Int) ^ (8 * w) := by simp
    omega
  rw [e3, Nat.and_two_pow_sub_one_eq_mod]
  have : ((2 ^ (8 * w) : Nat) : Int) = (2 : Int) ^ (8 * w) := by simp
  rw [Int.natCast_emod, this, Int.toNat_of_nonneg h0]
theorem wide_size (x : Int) (w : Nat) (hw : w ≤ 8) : (wideV x (w : Int)).size = w := by
  unfold wideV
  rw [if_neg (by omega), Int.toNat_natCast, strOfNums_size, wideL_len]
theorem text_put (a s : ByteArray) (ha : a.size ≤ 1000) (hs : s.size ≤ 255) : textV ((a ++ (strOfNums [(s.size : Int)] ++ s)) ++ a) (a.size : Int) = (s, (a.size : Int) + 1 + (s.size : Int), 0) := by
  have hz : ((a ++ (strOfNums [(s.size : Int)] ++ s)) ++ a).size = a.size + (1 + s.size) + a.size := by simp [strOfNums_size]
  have hb : byteAt ((a ++ (strOfNums [(s.size : Int)] ++ s)) ++ a) a.size = s.size := by
    unfold byteAt
    have : ((a ++ (strOfNums [(s.size : Int)] ++ s)) ++ a).data.toList = a.data.toList ++ (UInt8.ofNat s.size :: (s.data.toList ++ a.data.toList)) := by simp [strOfNums_data]
    rw [this, List.getD_eq_getElem?_getD, List.getElem?_append_right (by simp)]
    simp [UInt8.toNat_ofNat]
    omega
  unfold textV
  rw [Int.toNat_natCast, hb, hz, if_neg (by omega), if_neg (by omega)]
  have : ((a ++ (strOfNums [(s.size : Int)] ++ s)) ++ a).extract (a.size + 1) (a.size + 1 + s.size) = s := by
    apply ByteArray.ext
    apply Array.ext'
    have e1 : (strOfNums [(s.size : Int)]).size = 1 := by rw [strOfNums_size]; rfl
    simp [strOfNums_data, List.drop_append, List.take_append, e1]
    rw [show a.size + 1 + s.size - a.size - 1 = s.size by omega, List.drop_eq_nil_of_le (show a.data.toList.length ≤ a.size + 1 by simp), List.take_of_length_le (show s.data.toList.length ≤ s.size by simp)]
    simp
  rw [this]
theorem text_no (a : ByteArray) (ha : a.size ≤ 1000) : ∃ r, textV ((a ++ (⟨#[]⟩ : ByteArray)) ++ a) (a.size : Int) = r := ⟨_, rfl⟩
theorem empty_list : (⟨#[]⟩ : ByteArray).toList = ([] : List UInt8) := by decide +kernel
theorem pure : Pure := by
  intro n w a s wn ww ha hs
  have hn := u64_is wn
  have hw64 := i64_is ww
  refine ⟨60, ?_⟩
  have T : sandglasslaw02_NumsBack.j0 60 n w true a s = some true := by
    simp only [show (60 : Nat) = 59 + 1 by omega, sandglasslaw02_NumsBack.j0, if_true, live_at (show 40 ≤ 59 by omega), Option.bind_some]
  unfold sandglasslaw02_NumsBack.f
  by_cases h1 : (a.size : Int) > 300
  · rw [if_pos h1, T]
  rw [if_neg h1]
  by_cases h2 : (s.size : Int) > 300
  · rw [decide_eq_true h2, T]
  rw [decide_eq_false h2]
  have hwz : (wideV n w).size ≤ 8 := by
    unfold wideV
    split
    · simp [ByteArray.size]
    · rw [strOfNums_size, wideL_len]; omega
  simp only [show (60 : Nat) = 59 + 1 by omega, sandglasslaw02_NumsBack.j0, Bool.false_eq_true, if_false, wide_f (show 20 ≤ 59 by omega), Option.bind_some]
  rw [if_pos (by omega), if_pos (by rw [ByteArray.size_append]; omega), number_f 0 _ _ _ (by rw [ByteArray.size_append, ByteArray.size_append]; omega), Option.bind_some]
  have J3 : sandglasslaw02_NumsBack.j3 57 false a s = some true := by
    simp only [show (57 : Nat) = 56 + 1 by omega, sandglasslaw02_NumsBack.j3, Bool.false_eq_true, if_false, put_f, Option.bind_some, live_at (show 40 ≤ 56 by omega)]
    by_cases h3 : s.size > 255
    · have hp : putV s = (⟨#[]⟩, false) := by unfold putV; rw [if_pos h3]
      have hz : (⟨#[]⟩ : ByteArray).size = 0 := rfl
      rw [hp]
      simp only [hz]
      rw [if_pos (by omega), if_pos (by rw [ByteArray.size_append, hz]; omega), text_f _ _ (by rw [ByteArray.size_append, ByteArray.size_append, hz]; omega), Option.bind_some, if_neg (by simp), if_pos (by omega), if_pos empty_list]
    · have hp : putV s = (strOfNums [(s.size : Int)] ++ s, true) := by unfold putV; rw [if_neg h3]
      have hz : (strOfNums [(s.size : Int)] ++ s).size = s.size + 1 := by rw [ByteArray.size_append, strOfNums_size]; simp; omega
      rw [hp]
      simp only [hz]
      rw [if_pos (by omega), if_pos (by rw [ByteArray.size_append, hz]; omega), text_f _ _ (by rw [ByteArray.size_append, ByteArray.size_append, hz]; omega), Option.bind_some, text_put a s (by omega) (by omega)]
      simp only [if_true]
      rw [wr (x := (a.size : Int) + ((s.size + 1 : Nat) : Int)) (by omega) (by omega), if_pos (by omega), wr (by omega) (by omega), if_pos (by omega)]
  by_cases h4 : w < 0 ∨ 8 < w
  · rw [numAt_arg (by omega)]
    have e : (wideV n w).toList = ([] : List UInt8) := by unfold wideV; rw [if_pos h4]; exact empty_list
    have J1 : sandglasslaw02_NumsBack.j1 59 n w (wideV n w) 0 0 1 true a s = some true := by
      simp only [show (59 : Nat) = 58 + 1 by omega, sandglasslaw02_NumsBack.j1, if_true, e, live_at (show 40 ≤ 58 by omega), Option.bind_some]
    by_cases h5 : w < 0
    · rw [if_pos h5]; exact J1
    · rw [if_neg h5, decide_eq_true (show w > 8 by omega)]; exact J1
  · obtain ⟨v, rfl⟩ : ∃ v : Nat, w = v := ⟨w.toNat, by omega⟩
    have hv : (wideV n (v : Int)).size = v := wide_size n v (by omega)
    have hA : numAt (a ++ wideV n (v : Int) ++ s) (a.size : Int) (v : Int) = (n % 256 ^ v, (a.size : Int) + (v : Int), 0) := by
      rw [numAt_ok (by rw [ByteArray.size_append, ByteArray.size_append, hv]; omega) (by rw [ByteArray.size_append, ByteArray.size_append, hv]; omega)]
      have e := drop_mid a (wideV n (v : Int)) s
      rw [hv] at e
      rw [Int.toNat_natCast, Int.toNat_natCast, e]
      have e2 : wideV n (v : Int) = strOfNums (wideL n v) := by unfold wideV; rw [if_neg (by omega), Int.toNat_natCast]
      rw [e2, numL_wide v n hn.1]
    rw [hA, if_neg (by omega), decide_eq_false (show ¬ (v : Int) > 8 by omega)]
    have J2 : sandglasslaw02_NumsBack.j2 58 (v : Int) (wideV n (v : Int)) (n % 256 ^ v) ((a.size : Int) + (v : Int)) 0 (n % 256 ^ v) a s = some true := by
      have e : (((wideV n (v : Int)).size : Int) != (v : Int)) = false := by rw [hv]; simp
      simp only [show (58 : Nat) = 57 + 1 by omega, sandglasslaw02_NumsBack.j2, if_true, e]
      rw [wr (x := (a.size : Int) + (v : Int)) (by omega) (by omega), if_pos rfl]
      exact J3
    simp only [show (59 : Nat) = 58 + 1 by omega, sandglasslaw02_NumsBack.j1, Bool.false_eq_true, if_false]
    by_cases h5 : (v : Int) < 8
    · rw [if_pos h5, if_pos (by rw [wr (by omega) (by omega), uw (by omega) (by omega)]; omega), and_low n hn.1 hn.2 v (by omega)]
      exact J2
    · rw [if_neg h5]
      have : v = 8 := by omega
      subst this
      have e : n % 256 ^ 8 = n := Int.emod_eq_of_lt hn.1 (by omega)
      rw [e] at J2 ⊢
      exact J2
end Go.Proofs.Ytbjnkhlepmocjaa.numsBack
