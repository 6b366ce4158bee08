/- The functions of layer 9 (policy), told in closed form. -/
import Derived.Test.YtjhipnhnbnnodaaQ5
import Derived.Test.YtjhipnhnbnnodaaQ17
import Derived.Test.YtjhipnhnbnnodaaQ11
import Derived.Test.YtjhipnhnbnnodaaQ9
import Derived.Test.YtjhipnhnbnnodaaQ13
import Derived.Test.YtjhipnhnbnnodaaQ18
import Derived.IntWalk
namespace Go.Proofs.Ytjhipnhnbnnodaa.La
open Go.RowKit Go.Proofs.YtjhipnhnbnnodaaW.PrintWords Go.Proofs.YtjhipnhnbnnodaaW.PrintLast Go.Proofs.YtjhipnhnbnnodaaW.PrintMore Go.Proofs.Ytjhipnhnbnnodaa.Q
set_option linter.unusedSimpArgs false
set_option linter.unusedVariables false
theorem wr {x : Int} (h0 : -9223372036854775808 ≤ x) (h1 : x < 9223372036854775808) : wrap64 x = x := by unfold wrap64; omega
theorem uw {x : Int} (h0 : 0 ≤ x) (h1 : x ≤ 18446744073709551615) : IntKind.u64.wrap x = x := IntWalk.u64_in x ⟨h0, h1⟩
theorem i64_is {v : Int} (h : (Lit.int .i64 v).wf = true) : -9223372036854775808 ≤ v ∧ v ≤ 9223372036854775807 := by
  simp [Lit.wf, IntKind.min, IntKind.max, IntKind.signed, IntKind.bits] at h
  omega
theorem mul_le {a b p q : Int} (h0 : 0 ≤ a) (h1 : a ≤ p) (h2 : 0 ≤ b) (h3 : b ≤ q) : 0 ≤ a * b ∧ a * b ≤ p * q :=
  ⟨Int.mul_nonneg h0 h2, Int.mul_le_mul h1 h3 h2 (Int.le_trans h0 h1)⟩
theorem quo_le {a b : Int} (a0 : 0 ≤ a) (b0 : 0 ≤ b) : 0 ≤ a / b ∧ a / b ≤ a := by
  refine ⟨Int.ediv_nonneg a0 b0, ?_⟩
  exact Int.ediv_le_self b a0
theorem bt_is (s : ByteArray) (i : Nat) (h : i < s.size) : bt s i = ((s.data.toList.getD i 0).toNat : Int) := by
  unfold bt
  rw [dif_pos (by simpa using h)]
  rw [List.getD_eq_getElem?_getD, List.getElem?_eq_getElem (by simpa using h)]; rfl
/-- The numbers of a number's bytes. -/
def wideL (x : Int) (w : Nat) : List Int := (List.range w).map fun i => x / 256 ^ (w - 1 - i) % 256
theorem wideL_len (x : Int) (w : Nat) : (wideL x w).length = w := by simp [wideL]
theorem wideL_at (x : Int) (w j : Nat) (h : j < w) : (wideL x w)[j]? = some (x / 256 ^ (w - 1 - j) % 256) := by simp [wideL, h]
theorem wideL_eq {x : Int} {w : Nat} {xs : List Int} (hl : xs.length = w) (h : ∀ j, j < w → xs[j]? = some (x / 256 ^ (w - 1 - j) % 256)) : xs = wideL x w := by
  apply List.ext_getElem?
  intro j
  by_cases hj : j < w
  · rw [h j hj, wideL_at x w j hj]
  · rw [List.getElem?_eq_none (by omega), List.getElem?_eq_none (by rw [wideL_len]; omega)]
def wideV (x w : Int) : ByteArray := if w < 0 ∨ 8 < w then ⟨#[]⟩ else strOfNums (wideL x w.toNat)
theorem pow8 (m : Nat) : (2 : Int) ^ (8 * m) = 256 ^ m := by rw [Int.pow_mul]; rfl
theorem shr_is (x : Int) (m : Nat) (h : m ≤ 8) : shr .u64 x ((8 * m : Nat) : Int) = x / 256 ^ m := by
  unfold shr
  rw [← pow8]
  have : min ((8 * m : Nat) : Int).toNat IntKind.u64.bits = 8 * m := by
    have : IntKind.u64.bits = 64 := rfl
    rw [this]; simp; omega
  rw [this]
theorem wide_l0 (x : Int) (w : Nat) (hw : w ≤ 8) (n : Nat) : ∀ (d i : Nat) (xs : List Int), xs.length = w → (∀ j, j < i → xs[j]? = some (x / 256 ^ (w - 1 - j) % 256)) → w - i = d → i ≤ w → d < n →
    nums_Wide.l0 n x (w : Int) xs (w : Int) (i : Int) = some (strOfNums (wideL x w)) := by
  induction n with
  | zero => intro d i xs _ _ _ _ h; omega
  | succ n ih =>
    intro d i xs hl hx hd hi hn
    simp only [nums_Wide.l0]
    by_cases h : (i : Int) < (w : Int)
    · have e1 : wrap64 ((w : Int) - 1) = (w : Int) - 1 := wr (by omega) (by omega)
      have e2 : wrap64 ((w : Int) - 1 - (i : Int)) = ((w - 1 - i : Nat) : Int) := by rw [wr (by omega) (by omega)]; omega
      have e3 : wrap64 (8 * ((w - 1 - i : Nat) : Int)) = ((8 * (w - 1 - i) : Nat) : Int) := by rw [wr (by omega) (by omega)]; omega
      rw [if_pos h, e1, e2, e3, if_pos (by omega), if_pos (by omega), if_pos (by omega), shr_is _ _ (by omega), wr (by omega) (by omega)]
      have e4 : (i : Int) + 1 = ((i + 1 : Nat) : Int) := by omega
      rw [e4]
      refine ih (d - 1) (i + 1) _ (by simpa using hl) ?_ (by omega) (by omega) (by omega)
      intro j hj
      rw [List.getElem?_set]
      by_cases h5 : i = j
      · subst h5
        simp
        omega
      · have : ¬ (i : Int).toNat = j := by simpa using h5
        rw [if_neg this]
        exact hx j (by omega)
    · rw [if_neg h]
      have : i = w := by omega
      subst this
      rw [wideL_eq hl hx]
theorem wide_f {n : Nat} (hn : 20 ≤ n) (x w : Int) : nums_Wide.f n x w = some (wideV x w) := by
  obtain ⟨n, rfl⟩ : ∃ m, n = m + 1 := ⟨n - 1, by omega⟩
  unfold nums_Wide.f wideV
  by_cases h : w < 0
  · rw [if_pos h, if_pos (Or.inl h)]; simp [nums_Wide.j0]
  · rw [if_neg h]
    by_cases h2 : w > 8
    · rw [decide_eq_true h2, if_pos (Or.inr h2)]; simp [nums_Wide.j0]
    · rw [decide_eq_false h2, if_neg (by omega)]
      obtain ⟨v, rfl⟩ : ∃ v : Nat, w = v := ⟨w.toNat, by omega⟩
      simp only [nums_Wide.j0, Bool.false_eq_true, if_false, Int.toNat_natCast, Option.bind_some, List.length_replicate]
      rw [if_pos (by omega), if_pos (by omega)]
      exact wide_l0 x v (by omega) n v 0 _ (by simp) (by intro j hj; omega) (by omega) (by omega) (by omega)
theorem drop_one (l : List UInt8) (a : Nat) (h : a < l.length) : (l.drop a).take 1 = [l.getD a 0] := by
  rw [List.drop_eq_getElem_cons h, List.take_succ_cons, List.take_zero, List.getD_eq_getElem?_getD, List.getElem?_eq_getElem h]; rfl
theorem wideL_succ (x : Int) (hx : 0 ≤ x) (w : Nat) : wideL x (w + 1) = wideL (x / 256) w ++ [x % 256] := by
  unfold wideL
  rw [List.range_succ, List.map_append]
  congr 1
  · apply List.map_congr_left
    intro i hi
    have hi := List.mem_range.1 hi
    have hp : (0 : Int) ≤ 256 := by omega
    rw [Int.ediv_ediv_of_nonneg hp, show w + 1 - 1 - i = (w - 1 - i) + 1 by omega, Int.pow_succ, Int.mul_comm (256 ^ (w - 1 - i)) 256]
  · simp
theorem byte_of {n : Int} (h0 : 0 ≤ n) (h1 : n < 256) : ((UInt8.ofNat n.toNat).toNat : Int) = n := by
  have : n.toNat % 256 = n.toNat := Nat.mod_eq_of_lt (by omega)
  simp [UInt8.toNat_ofNat]; omega
theorem mod_join (x p : Int) (hp : 0 < p) : x / 256 % p * 256 + x % 256 = x % (256 * p) := by
  have e1 := Int.emod_add_mul_ediv x 256
  have e2 := Int.emod_add_mul_ediv (x / 256) p
  have b1 := Int.emod_nonneg (x / 256) (show p ≠ 0 by omega)
  have b2 := Int.emod_lt_of_pos (x / 256) hp
  generalize hq : x / 256 = q at *
  generalize hr : x % 256 = r at *
  have e3 : x = (q % p * 256 + r) + 256 * p * (q / p) := by
    have : 256 * p * (q / p) = 256 * (p * (q / p)) := Int.mul_assoc _ _ _
    rw [this]; omega
  have e4 := Int.emod_eq_of_lt (a := q % p * 256 + r) (b := 256 * p) (by omega) (by omega)
  have e5 := Int.add_mul_emod_self_left (q % p * 256 + r) (256 * p) (q / p)
  rw [← e3, e4] at e5
  exact e5.symm
theorem numL_wide (w : Nat) : ∀ (x : Int), 0 ≤ x → numL (strOfNums (wideL x w)).data.toList = x % 256 ^ w := by
  induction w with
  | zero => intro x hx; simp [strOfNums_data, wideL, numL, Int.emod_one]
  | succ w ih =>
    intro x hx
    have h1 := ih (x / 256) (Int.ediv_nonneg hx (by omega))
    rw [strOfNums_data] at h1 ⊢
    rw [wideL_succ x hx, List.map_append, List.map_singleton, numL_snoc, h1, byte_of (Int.emod_nonneg x (by omega)) (Int.emod_lt_of_pos x (by omega)), Int.pow_succ, Int.mul_comm (256 ^ w) 256]
    have hp : (0 : Int) < 256 ^ w := Int.pow_pos (by omega)
    exact mod_join x _ hp
theorem empty_list : (⟨#[]⟩ : ByteArray).toList = ([] : List UInt8) := by decide +kernel
theorem wide_size (x : Int) (w : Nat) (hw : w ≤ 8) : (wideV x (w : Int)).size = w := by
  unfold wideV
  rw [if_neg (by omega), Int.toNat_natCast, strOfNums_size, wideL_len]
theorem wideV_data (x : Int) (w : Nat) (hw : w ≤ 8) : (wideV x (w : Int)).data.toList = (strOfNums (wideL x w)).data.toList := by
  unfold wideV
  rw [if_neg (by omega), Int.toNat_natCast]
/-- Bytes are those of their number. -/
theorem wide_numL (w : Nat) : ∀ (l : List UInt8), l.length = w → (wideL (numL l) w).map (fun n => UInt8.ofNat n.toNat) = l := by
  induction w with
  | zero => intro l h; rw [List.length_eq_zero_iff.1 h]; rfl
  | succ w ih =>
    intro l h
    obtain ⟨m, b, rfl⟩ : ∃ m b, l = m ++ [b] := ⟨l.dropLast, l.getLast (by intro e; rw [e] at h; cases h), (List.dropLast_concat_getLast _).symm⟩
    have hm : m.length = w := by simpa using h
    have nb := numL_bd m
    have hb : (b.toNat : Int) < 256 := by have := b.toNat_lt; omega
    rw [numL_snoc, wideL_succ _ (by omega), List.map_append, show (numL m * 256 + (b.toNat : Int)) / 256 = numL m by omega, show (numL m * 256 + (b.toNat : Int)) % 256 = b.toNat by omega, ih m hm]
    simp
theorem polOk_is {k l w b : Int} (h : polOk k l w b = true) : 1 ≤ k ∧ k ≤ 4 ∧ 1 ≤ l ∧ l ≤ 1048576 ∧ 1 ≤ w ∧ w ≤ 1048576 ∧ 0 ≤ b ∧ b ≤ 16 ∧ (k = 3 → 1 ≤ b ∧ w.tmod b = 0) := by
  unfold polOk withinB at h
  simp only [Bool.and_eq_true, decide_eq_true_eq] at h
  obtain ⟨⟨⟨hk, hl⟩, hw⟩, hb⟩ := h
  refine ⟨hk.1, hk.2, hl.1, hl.2, hw.1, hw.2, ?_⟩
  by_cases h3 : k = 3
  · rw [if_pos h3] at hb
    unfold ringB withinB at hb
    simp only [Bool.and_eq_true, decide_eq_true_eq, beq_iff_eq] at hb
    exact ⟨by omega, by omega, fun _ => ⟨hb.1.1, hb.2⟩⟩
  · rw [if_neg h3] at hb
    have hz : b = 0 := by
      split at hb
      · unfold exactB at hb
        simp only [Bool.and_eq_true, beq_iff_eq] at hb
        exact hb.1
      · simpa using hb
    exact ⟨by omega, by omega, fun h => absurd h h3⟩
def chk (k l w b : Int) : Int := if polOk k l w b = true then 0 else 1
theorem check_f (k l w b : Int) : policy_Check.f k l w b = some (chk k l w b) := rfl
def encB (k l w b : Int) : ByteArray := ((wideV k 1 ++ wideV l 4) ++ wideV w 4) ++ wideV b 1
theorem encB_size (k l w b : Int) : (encB k l w b).size = 10 := by
  unfold encB
  have h1 := fun x => wide_size x 1 (by omega)
  have h4 := fun x => wide_size x 4 (by omega)
  simp only [ByteArray.size_append]
  have e1 : ((1 : Nat) : Int) = 1 := rfl
  have e4 : ((4 : Nat) : Int) = 4 := rfl
  rw [e1] at h1
  rw [e4] at h4
  rw [h1, h1, h4, h4]
def encV (k l w b : Int) : ByteArray × Int := if polOk k l w b = true then (encB k l w b, 0) else (⟨#[]⟩, 1)
theorem enc_f {n : Nat} (hn : 20 ≤ n) (k l w b : Int) : policy_Encode.f n k l w b = some (encV k l w b) := by
  unfold policy_Encode.f encV
  rw [check_f]
  unfold chk
  cases hp : polOk k l w b
  · simp
  · obtain ⟨k0, k1, l0, l1, w0, w1, b0, b1, _⟩ := polOk_is hp
    have h1 : ∀ x, (wideV x 1).size = 1 := fun x => wide_size x 1 (by omega)
    have h4 : ∀ x, (wideV x 4).size = 4 := fun x => wide_size x 4 (by omega)
    simp only [if_true, Option.bind_some]
    rw [uw (x := k) (by omega) (by omega), uw (x := l) (by omega) (by omega), uw (x := w) (by omega) (by omega), uw (x := b) (by omega) (by omega)]
    simp only [wide_f hn, Option.bind_some, ByteArray.size_append, h1, h4]
    simp [encB]
def decV (s : ByteArray) : Int × Int × Int × Int × Int := if s.size < 10 then (0, 0, 0, 0, 2) else if s.size = 10 ∧ polOk (fld s 0 1) (fld s 1 4) (fld s 5 4) (fld s 9 1) = true then (fld s 0 1, fld s 1 4, fld s 5 4, fld s 9 1, 0) else (0, 0, 0, 0, 3)
theorem dec_f (s : ByteArray) (h : s.size ≤ 1000000) : policy_Decode.f s = some (decV s) := by unfold policy_Decode.f decV; rw [if_pos h]
/-- What is written is read. -/
theorem fld_enc {k l w b : Int} (k0 : 0 ≤ k) (k1 : k < 256) (l0 : 0 ≤ l) (l1 : l < 4294967296) (w0 : 0 ≤ w) (w1 : w < 4294967296) (b0 : 0 ≤ b) (b1 : b < 256) :
    fld (encB k l w b) 0 1 = k ∧ fld (encB k l w b) 1 4 = l ∧ fld (encB k l w b) 5 4 = w ∧ fld (encB k l w b) 9 1 = b := by
  have n1 : ∀ x, 0 ≤ x → x < 256 → numL (strOfNums (wideL x 1)).data.toList = x := fun x h0 h1 => by rw [numL_wide 1 x h0]; exact Int.emod_eq_of_lt h0 h1
  have n4 : ∀ x, 0 ≤ x → x < 4294967296 → numL (strOfNums (wideL x 4)).data.toList = x := fun x h0 h1 => by rw [numL_wide 4 x h0]; exact Int.emod_eq_of_lt h0 h1
  have d1 : ∀ x, (wideV x 1).data.toList = (strOfNums (wideL x 1)).data.toList := fun x => wideV_data x 1 (by omega)
  have d4 : ∀ x, (wideV x 4).data.toList = (strOfNums (wideL x 4)).data.toList := fun x => wideV_data x 4 (by omega)
  have e : (encB k l w b).data.toList = (strOfNums (wideL k 1)).data.toList ++ ((strOfNums (wideL l 4)).data.toList ++ ((strOfNums (wideL w 4)).data.toList ++ (strOfNums (wideL b 1)).data.toList)) := by
    unfold encB
    rw [← d1, ← d4, ← d4, ← d1]
    simp
  have len1 : ∀ x, (strOfNums (wideL x 1)).data.toList.length = 1 := fun x => by rw [strOfNums_data, List.length_map, wideL_len]
  have len4 : ∀ x, (strOfNums (wideL x 4)).data.toList.length = 4 := fun x => by rw [strOfNums_data, List.length_map, wideL_len]
  have j : ∀ (p q r : List UInt8) (a n : Nat), p.length = a → q.length = n → ((p ++ (q ++ r)).drop a).take n = q := by
    intro p q r a n hp hq
    rw [List.drop_left' hp, List.take_left' hq]
  unfold fld
  rw [e]
  refine ⟨?_, ?_, ?_, ?_⟩
  · rw [List.drop_zero, List.take_left' (len1 k), n1 k k0 k1]
  · rw [j _ _ _ 1 4 (len1 k) (len4 l), n4 l l0 l1]
  · rw [← List.append_assoc, j _ _ _ 5 4 (by rw [List.length_append, len1, len4]) (len4 w), n4 w w0 w1]
  · rw [← List.append_assoc, ← List.append_assoc, List.drop_left' (by rw [List.length_append, List.length_append, len1, len4, len4]), List.take_of_length_le (by rw [len1]; omega), n1 b b0 b1]
theorem dec_enc {k l w b : Int} (hp : polOk k l w b = true) : decV (encB k l w b) = (k, l, w, b, 0) := by
  obtain ⟨k0, k1, l0, l1, w0, w1, b0, b1, _⟩ := polOk_is hp
  obtain ⟨e0, e1, e2, e3⟩ := fld_enc (k := k) (l := l) (w := w) (b := b) (by omega) (by omega) (by omega) (by omega) (by omega) (by omega) (by omega) (by omega)
  unfold decV
  rw [encB_size, e0, e1, e2, e3, if_neg (by omega), if_pos ⟨rfl, hp⟩]
theorem slot_f (k l w b : Int) : policy_Slot.f k l w b = some (if polOk k l w b = true then slotV k w b else 0) := rfl
theorem span_f (k l w b : Int) : policy_Span.f k l w b = some (if polOk k l w b = true then w else 0) := by
  unfold policy_Span.f
  rw [check_f]
  unfold chk
  cases polOk k l w b <;> simp
theorem live_ok : sandglasslaw09_live.f 40 = some true := by decide +kernel
theorem live_up (n : Nat) : sandglasslaw09_live.f (40 + n) = some true := by
  induction n with
  | zero => exact live_ok
  | succ n ih => exact sandglasslaw09_live.mono (40 + n) _ ih
theorem live_at {n : Nat} (h : 40 ≤ n) : sandglasslaw09_live.f n = some true := by
  have := live_up (n - 40)
  rwa [show 40 + (n - 40) = n by omega] at this
end Go.Proofs.Ytjhipnhnbnnodaa.La
