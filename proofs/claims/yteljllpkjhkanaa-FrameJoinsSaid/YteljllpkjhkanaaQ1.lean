-- Laid by wip/tools/hprint.py, a program of this repo, over the kit's print; not a text of print.sh.
import Derived.Test.YteljllpkjhkanaaQ0
namespace Go.Proofs.Yteljllpkjhkanaa.Q
open Go.RowKit Go.Proofs.Yteljllpkjhkanaa.Zip Go.Proofs.YteljllpkjhkanaaW.PrintWords Go.Proofs.YteljllpkjhkanaaW.PrintLast Go.Proofs.YteljllpkjhkanaaW.PrintMore
attribute [local go_sem] max2_int min2_int max_two min_two max_three min_three max_four min_four   -- for this text's walks alone
set_option linter.unusedVariables false
set_option linter.unusedSimpArgs false

/-! ### nums_Narrow: given by hand -/
/-- The number of bytes, the first one the highest. -/
def numL (l : List UInt8) : Int := l.foldl (fun n b => n * 256 + (b.toNat : Int)) 0
theorem numL_snoc (l : List UInt8) (b : UInt8) : numL (l ++ [b]) = numL l * 256 + (b.toNat : Int) := by simp [numL]
theorem numL_bd (l : List UInt8) : 0 ≤ numL l ∧ numL l < 256 ^ l.length := by
  have h : ∀ (l : List UInt8) (a : Int), 0 ≤ a → 0 ≤ l.foldl (fun n b => n * 256 + (b.toNat : Int)) a ∧ l.foldl (fun n b => n * 256 + (b.toNat : Int)) a < (a + 1) * 256 ^ l.length := by
    intro l
    induction l with
    | nil => intro a ha; simp; omega
    | cons b l ih =>
      intro a ha
      have hb : (b.toNat : Int) < 256 := by have := b.toNat_lt; omega
      have := ih (a * 256 + (b.toNat : Int)) (by omega)
      refine ⟨this.1, Int.lt_of_lt_of_le this.2 ?_⟩
      rw [List.length_cons, Int.pow_succ, Int.mul_comm (256 ^ l.length) 256, ← Int.mul_assoc]
      refine Int.mul_le_mul_of_nonneg_right (by omega) ?_
      exact Int.pow_nonneg (by omega)
  have := h l 0 (by omega)
  simpa [numL] using this
theorem numL_small {l : List UInt8} {n : Nat} (h : l.length ≤ n) (hn : n ≤ 8) : 0 ≤ numL l ∧ numL l < 256 ^ n := by
  have b := numL_bd l
  refine ⟨b.1, Int.lt_of_lt_of_le b.2 ?_⟩
  have : (256 : Nat) ^ l.length ≤ 256 ^ n := Nat.pow_le_pow_right (by omega) h
  have h2 : ((256 ^ l.length : Nat) : Int) ≤ ((256 ^ n : Nat) : Int) := by exact_mod_cast this
  simpa using h2
theorem or_low (a b : Int) (ha : 0 ≤ a) (ha2 : a < 72057594037927936) (hb : 0 ≤ b) (hb2 : b < 256) : bits .or .u64 (a * 256) b = a * 256 + b := by
  rw [u64_or _ _ (by omega) (by omega) hb (by omega), nat_join 8 _ _ (by omega) (by omega)]
  omega
theorem take_snoc (s : ByteArray) (k : Nat) (h : k < s.size) : s.data.toList.take (k + 1) = s.data.toList.take k ++ [s.data.toList.getD k 0] := by
  rw [List.take_succ_eq_append_getElem (by simpa using h), List.getD_eq_getElem?_getD, List.getElem?_eq_getElem (by simpa using h)]; rfl
def nums_Narrow.f (a0 : ByteArray) : Option (Int × Bool) := some (if a0.size > 8 then (0, false) else (numL a0.data.toList, true))
theorem ret_nb {a b : Int} {c : Bool} (h : a = b) : Ending.returned (.tuple #[.int .u64 a, .bool c]) = .returned (.tuple #[.int .u64 b, .bool c]) := by rw [h]
set_option maxHeartbeats 2000000 in
theorem narrow_no (s : ByteArray) (w : World) (h : (8 : Int) < (s.size : Int)) : Calls Try.prog 19 #[.string s] w fun e w' => e = .returned (.tuple #[.int .u64 0, .bool false]) ∧ Below w.heap.size w w' := by
  go_enter Try.func19, Try.ntmps19
  go_wp2
  go_ret2
  exact ⟨rfl, Below.refl _ _⟩
set_option maxHeartbeats 4000000 in
theorem narrow_yes (s : ByteArray) (w : World) (h : ¬ (8 : Int) < (s.size : Int)) : Calls Try.prog 19 #[.string s] w fun e w' => e = .returned (.tuple #[.int .u64 (numL s.data.toList), .bool true]) ∧ Below w.heap.size w w' := by
  have hcv := Lib.run_convert_string_bytes (P := Try.prog) w 9 52 5 s Try.underlying9 Try.underlying52 Try.underlying5
  have hb : Below w.heap.size w (Lib.bytesWorld w 5 s) := bytes_below (Below.refl _ _) (Nat.le_refl _) 5 s
  have hcell := Lib.bytesWorld_cell w 5 s
  generalize hW : Lib.bytesWorld w 5 s = W1 at hcv hb hcell
  have HB := Aside0.mk hb
  have HC := Aside0.mk hcell
  clear hb hcell hW
  go_enter Try.func19, Try.ntmps19
  go_wp2
  go_loop [4, 13] (fun n i => ∃ k : Nat, k ≤ s.size ∧ i = .int .i64 k ∧ n = .int .u64 (numL (s.data.toList.take k))) (fun _ i => s.size - (intOf i).toNat)
  case atStart => exact ⟨0, Nat.zero_le _, rfl, rfl⟩
  case round =>
    obtain ⟨k, hk, rfl, rfl⟩ := hrel
    by_cases hlt : k < s.size
    · have hc := HC.out k hlt
      have hs := numL_small (l := s.data.toList.take k) (n := 7) (by simp; omega) (by omega)
      have hv : (s.data.toList.getD k 0).toNat < 256 := (s.data.toList.getD k 0).toNat_lt
      have hor := Aside0.mk (or_low (numL (s.data.toList.take k)) ((s.data.toList.getD k 0).toNat : Int) hs.1 (by omega) (by omega) (by omega))
      have he : Aside0 (s.data.toList.getD k 0 = s.data[k]'hlt) := ⟨by rw [List.getD_eq_getElem?_getD, List.getElem?_eq_getElem (by simpa using hlt)]; rfl⟩
      have hw : Aside0 (IntKind.u64.wrap ((s.data.toList.getD k 0).toNat : Int) = ((s.data.toList.getD k 0).toNat : Int)) := ⟨IntWalk.u64_in _ ⟨by omega, by omega⟩⟩
      have HS : Aside0 (numL (s.data.toList.take (k + 1)) = numL (s.data.toList.take k) * 256 + ((s.data.toList.getD k 0).toNat : Int)) := ⟨by rw [take_snoc s k hlt]; exact numL_snoc _ _⟩
      obtain ⟨z0, z1⟩ := hs
      go_wp2
      all_goals
        go_round
        case rel => exact ⟨k + 1, by omega, by go_num, by rw [HS.out, ← hor.out, ← hw.out, he.out]⟩
        case measure => simp [intOf]; omega
    · go_wp2
      go_ret2
      exact ⟨ret_nb (by rw [List.take_of_length_le (by simp; omega)]), HB.out⟩
theorem nums_Narrow.calls (a0 : ByteArray) (r1 : Int) (r2 : Bool) (w : World) (h : nums_Narrow.f a0 = some (r1, r2)) :
    Calls Try.prog 19 #[.string a0] w fun e w' => e = .returned (.tuple #[.int .u64 r1, .bool r2]) ∧ Below w.heap.size w w' := by
  have h1 := Option.some.inj h
  by_cases hc : a0.size > 8
  · rw [if_pos hc] at h1
    simp only [Prod.mk.injEq] at h1
    obtain ⟨rfl, rfl⟩ := h1
    exact narrow_no a0 w (by omega)
  · rw [if_neg hc] at h1
    simp only [Prod.mk.injEq] at h1
    obtain ⟨rfl, rfl⟩ := h1
    exact narrow_yes a0 w (by omega)

end Go.Proofs.Yteljllpkjhkanaa.Q
