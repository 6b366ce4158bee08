/- The functions of layer 2 (nums), told in closed form: numbers and texts as bytes. -/
import Derived.Test.YtbjnkhlepmocjaaNumsLa
import Derived.Test.YtbjnkhlepmocjaaQ10
import Derived.Test.YtbjnkhlepmocjaaQ11
import Derived.Test.YtbjnkhlepmocjaaQ12
import Derived.Test.YtbjnkhlepmocjaaQ13
import Derived.Test.YtbjnkhlepmocjaaQ14
namespace Go.Proofs.Ytbjnkhlepmocjaa.La
open Go.RowKit Go.Proofs.YtbjnkhlepmocjaaW.PrintWords Go.Proofs.YtbjnkhlepmocjaaW.PrintLast Go.Proofs.YtbjnkhlepmocjaaW.PrintMore Go.Proofs.Ytbjnkhlepmocjaa.Q
set_option linter.unusedSimpArgs false
set_option linter.unusedVariables false
def narV (s : ByteArray) : Int × Bool := if s.size > 8 then (0, false) else (numL s.data.toList, true)
theorem narrow_f (s : ByteArray) : nums_Narrow.f s = some (narV s) := rfl
theorem bt_is (s : ByteArray) (i : Nat) (h : i < s.size) : bt s i = ((s.data.toList.getD i 0).toNat : Int) := by
  unfold bt
  rw [dif_pos (by simpa using h)]
  rw [List.getD_eq_getElem?_getD, List.getElem?_eq_getElem (by simpa using h)]; rfl
theorem numL_nil : numL [] = 0 := rfl
/-- The numbers of a number's bytes. -/
def wideL (x : Int) (w : Nat) : List Int := (List.range w).map fun i => x / 256 ^ (w - 1 - i) % 256
theorem wideL_len (x : Int) (w : Nat) : (wideL x w).length = w := by simp [wideL]
theorem wideL_at (x : Int) (w j : Nat) (h : j < w) : (wideL x w)[j]? = some (x / 256 ^ (w - 1 - j) % 256) := by simp [wideL, h]
theorem wideL_eq {x : Int} {w : Nat} {xs : List Int} (hl : xs.length = w) (h : ∀ j, j < w → xs[j]? = some (x / 256 ^ (w - 1 - j) % 256)) : xs = wideL x w := by
  apply List.ext_getElem?
  intro j
  by_cases hj : j < w
  · rw [h j hj, wideL_at x w j hj]
  · rw [List.getElem?_eq_none (by omega), List.getElem?_eq_none (by rw [wideL_len]; omega)]
def wideV (x w : Int) : ByteArray := if w < 0 ∨ 8 < w then ⟨#[]⟩ else strOfNums (wideL x w.toNat)
theorem pow8 (m : Nat) : (2 : Int) ^ (8 * m) = 256 ^ m := by rw [Int.pow_mul]; rfl
theorem shr_is (x : Int) (m : Nat) (h : m ≤ 8) : shr .u64 x ((8 * m : Nat) : Int) = x / 256 ^ m := by
  unfold shr
  rw [← pow8]
  have : min ((8 * m : Nat) : Int).toNat IntKind.u64.bits = 8 * m := by
    have : IntKind.u64.bits = 64 := rfl
    rw [this]; simp; omega
  rw [this]
theorem wide_l0 (x : Int) (w : Nat) (hw : w ≤ 8) (n : Nat) : ∀ (d i : Nat) (xs : List Int), xs.length = w → (∀ j, j < i → xs[j]? = some (x / 256 ^ (w - 1 - j) % 256)) → w - i = d → i ≤ w → d < n →
    nums_Wide.l0 n x (w : Int) xs (w : Int) (i : Int) = some (strOfNums (wideL x w)) := by
  induction n with
  | zero => intro d i xs _ _ _ _ h; omega
  | succ n ih =>
    intro d i xs hl hx hd hi hn
    simp only [nums_Wide.l0]
    by_cases h : (i : Int) < (w : Int)
    · have e1 : wrap64 ((w : Int) - 1) = (w : Int) - 1 := wr (by omega) (by omega)
      have e2 : wrap64 ((w : Int) - 1 - (i : Int)) = ((w - 1 - i : Nat) : Int) := by rw [wr (by omega) (by omega)]; omega
      have e3 : wrap64 (8 * ((w - 1 - i : Nat) : Int)) = ((8 * (w - 1 - i) : Nat) : Int) := by rw [wr (by omega) (by omega)]; omega
      rw [if_pos h, e1, e2, e3, if_pos (by omega), if_pos (by omega), if_pos (by omega), shr_is _ _ (by omega), wr (by omega) (by omega)]
      have e4 : (i : Int) + 1 = ((i + 1 : Nat) : Int) := by omega
      rw [e4]
      refine ih (d - 1) (i + 1) _ (by simpa using hl) ?_ (by omega) (by omega) (by omega)
      intro j hj
      rw [List.getElem?_set]
      by_cases h5 : i = j
      · subst h5
        simp
        omega
      · have : ¬ (i : Int).toNat = j := by simpa using h5
        rw [if_neg this]
        exact hx j (by omega)
    · rw [if_neg h]
      have : i = w := by omega
      subst this
      rw [wideL_eq hl hx]
theorem wide_f {n : Nat} (hn : 20 ≤ n) (x w : Int) : nums_Wide.f n x w = some (wideV x w) := by
  obtain ⟨n, rfl⟩ : ∃ m, n = m + 1 := ⟨n - 1, by omega⟩
  unfold nums_Wide.f wideV
  by_cases h : w < 0
  · rw [if_pos h, if_pos (Or.inl h)]; simp [nums_Wide.j0]
  · rw [if_neg h]
    by_cases h2 : w > 8
    · rw [decide_eq_true h2, if_pos (Or.inr h2)]; simp [nums_Wide.j0]
    · rw [decide_eq_false h2, if_neg (by omega)]
      obtain ⟨v, rfl⟩ : ∃ v : Nat, w = v := ⟨w.toNat, by omega⟩
      simp only [nums_Wide.j0, Bool.false_eq_true, if_false, Int.toNat_natCast, Option.bind_some, List.length_replicate]
      rw [if_pos (by omega), if_pos (by omega)]
      exact wide_l0 x v (by omega) n v 0 _ (by simp) (by intro j hj; omega) (by omega) (by omega) (by omega)
theorem number_f (k : Nat) (s : ByteArray) (a n : Int) (hs : s.size ≤ 9223372036854775807) : nums_Number.f s a n = some (numAt s a n) := by unfold nums_Number.f; rw [if_pos hs]
theorem numAt_arg {s : ByteArray} {a n : Int} (h : n < 0 ∨ 8 < n ∨ a < 0 ∨ (s.size : Int) < a) : numAt s a n = (0, 0, 1) := by unfold numAt; rw [if_pos h]
theorem numAt_cut {s : ByteArray} {a n : Int} (h : ¬ (n < 0 ∨ 8 < n ∨ a < 0 ∨ (s.size : Int) < a)) (h2 : (s.size : Int) - a < n) : numAt s a n = (0, 0, 2) := by unfold numAt; rw [if_neg h, if_pos h2]
theorem numAt_ok {s : ByteArray} {a n : Int} (h : ¬ (n < 0 ∨ 8 < n ∨ a < 0 ∨ (s.size : Int) < a)) (h2 : ¬ (s.size : Int) - a < n) : numAt s a n = (numL ((s.data.toList.drop a.toNat).take n.toNat), a + n, 0) := by unfold numAt; rw [if_neg h, if_neg h2]
def byteAt (s : ByteArray) (a : Nat) : Nat := (s.data.toList.getD a 0).toNat
theorem byteAt_lt (s : ByteArray) (a : Nat) : byteAt s a < 256 := (s.data.toList.getD a 0).toNat_lt
theorem drop_one (l : List UInt8) (a : Nat) (h : a < l.length) : (l.drop a).take 1 = [l.getD a 0] := by
  rw [List.drop_eq_getElem_cons h, List.take_succ_cons, List.take_zero, List.getD_eq_getElem?_getD, List.getElem?_eq_getElem h]; rfl
def textV (s : ByteArray) (a : Int) : ByteArray × Int × Int :=
  if a < 0 ∨ (s.size : Int) < a then (⟨#[]⟩, 0, 1)
  else if a = (s.size : Int) ∨ (s.size : Int) - a - 1 < (byteAt s a.toNat : Int) then (⟨#[]⟩, 0, 2)
  else (s.extract (a.toNat + 1) (a.toNat + 1 + byteAt s a.toNat), a + 1 + (byteAt s a.toNat : Int), 0)
theorem text_f (s : ByteArray) (a : Int) (hs : s.size ≤ 1000000) : nums_Text.f s a = some (textV s a) := by
  unfold nums_Text.f textV
  rw [number_f 0 s a 1 (by omega)]
  simp only [Option.bind_some]
  by_cases h : a < 0 ∨ (s.size : Int) < a
  · rw [numAt_arg (by omega), if_pos h]; simp
  · rw [if_neg h]
    obtain ⟨v, rfl⟩ : ∃ v : Nat, a = v := ⟨a.toNat, by omega⟩
    by_cases h2 : (s.size : Int) - (v : Int) < 1
    · rw [numAt_cut (by omega) h2, if_pos (show (v : Int) = (s.size : Int) ∨ (s.size : Int) - v - 1 < (byteAt s (v : Int).toNat : Int) by omega)]; simp
    · rw [numAt_ok (by omega) h2]
      have hl : v < s.data.toList.length := by
        have : s.data.toList.length = s.size := by simp
        omega
      have e : numL ((s.data.toList.drop v).take 1) = (byteAt s v : Int) := by rw [drop_one _ _ hl]; simp [numL, byteAt]
      have hb := byteAt_lt s v
      simp only [Int.toNat_natCast, Int.toNat_one, e, if_true]
      rw [wr (x := (byteAt s v : Int)) (by omega) (by omega), wr (x := (v : Int) + 1 + (byteAt s v : Int)) (by omega) (by omega)]
      by_cases h3 : (v : Int) + 1 + (byteAt s v : Int) > (s.size : Int)
      · rw [if_pos h3, if_pos (Or.inr (by omega))]
      · rw [if_neg h3, if_neg (show ¬ ((v : Int) = s.size ∨ (s.size : Int) - v - 1 < (byteAt s v : Int)) by omega), if_pos (by omega), if_pos (by omega), if_pos (by omega)]
        have e1 : ((v : Int) + 1).toNat = v + 1 := by omega
        have e2 : ((v : Int) + 1 + (byteAt s v : Int)).toNat = v + 1 + byteAt s v := by omega
        rw [e1, e2]
def putV (s : ByteArray) : ByteArray × Bool := if s.size > 255 then (⟨#[]⟩, false) else (strOfNums [(s.size : Int)] ++ s, true)
theorem put_f (s : ByteArray) : nums_Put.f s = some (putV s) := by
  unfold nums_Put.f putV
  by_cases h : s.size > 255
  · rw [if_pos (by omega), if_pos h]
  · rw [if_neg (by omega), if_neg h]
    have e : (s.size : Int) % 256 = s.size := by omega
    simp only [Option.bind_some, e]
    rw [if_pos]
    rw [strOfNums_size]; simp; omega
end Go.Proofs.Ytbjnkhlepmocjaa.La
