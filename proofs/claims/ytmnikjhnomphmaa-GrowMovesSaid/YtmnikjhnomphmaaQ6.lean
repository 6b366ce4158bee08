-- Laid by wip/tools/hprint.py, a program of this repo, over the kit's print; not a text of print.sh.
import Derived.Test.YtmnikjhnomphmaaQ0
import Derived.Test.YtmnikjhnomphmaaQ5
namespace Go.Proofs.Ytmnikjhnomphmaa.Q
open Go.RowKit Go.Proofs.Ytmnikjhnomphmaa.Zip Go.Proofs.YtmnikjhnomphmaaW.PrintWords Go.Proofs.YtmnikjhnomphmaaW.PrintLast Go.Proofs.YtmnikjhnomphmaaW.PrintMore
attribute [local go_sem] max2_int min2_int max_two min_two max_three min_three max_four min_four   -- for this text's walks alone
set_option linter.unusedVariables false
set_option linter.unusedSimpArgs false

/-! ### hash_Sum: given by hand -/
def mixI (n : Int) : Int := mix3 (mix2 (mix1 n))
def sumL (h : Int) (l : List UInt8) : Int := l.foldl (fun h b => mixI (Go.bits .xor .u64 h ((b.toNat : Int) + 1))) h
theorem sumL_snoc (h : Int) (l : List UInt8) (b : UInt8) : sumL h (l ++ [b]) = mixI (Go.bits .xor .u64 (sumL h l) ((b.toNat : Int) + 1)) := by simp [sumL]
theorem sum_take (s : ByteArray) (k : Nat) (h : k < s.size) : s.data.toList.take (k + 1) = s.data.toList.take k ++ [s.data.toList.getD k 0] := by
  rw [List.take_succ_eq_append_getElem (by simpa using h), List.getD_eq_getElem?_getD, List.getElem?_eq_getElem (by simpa using h)]; rfl
theorem kept_cell {W w1 : World} {p : Addr} {v : Value} (hb : Below W.heap.size W w1) (h : W.cell? p = some v) : w1.cell? p = some v := by
  have hlt : p.block < W.heap.size := by
    unfold World.cell? at h
    rcases Nat.lt_or_ge p.block W.heap.size with h1 | h1
    · exact h1
    · rw [Array.getElem?_eq_none h1] at h; cases h
  rw [hb.cell hlt, h]
theorem mix_is (n : Int) : Aside0 (hash_Mix.f n = some (mixI n)) := ⟨rfl⟩
def sumI (a : Int) (s : ByteArray) : Int := mixI (Go.bits .xor .u64 (sumL (mixI a) s.data.toList) (s.size : Int))
def hash_Sum.f (a0 : Int) (a1 : ByteArray) : Option (Int) := if a1.size ≤ 9223372036854775807 then some (sumI a0 a1) else none
set_option maxHeartbeats 4000000 in
theorem sum_any (n : Int) (s : ByteArray) (w : World) (hs : s.size ≤ 9223372036854775807) : Calls Try.prog 65 #[.int .u64 n, .string s] w fun e w' => e = .returned (.int .u64 (sumI n s)) ∧ Below w.heap.size w w' := by
  have hcv := fun w' : World => Lib.run_convert_string_bytes (P := Try.prog) w' 9 52 5 s Try.underlying9 Try.underlying52 Try.underlying5
  go_enter Try.func65, Try.ntmps65
  go_wp2_with (first | (go_at_call 73; refine (hash_Mix.calls _ _ _ (mix_is _).out).mono ?_; rintro e w1 ⟨rfl, hb⟩))
  have HB0 := Aside0.mk hb
  clear hb hcv
  go_loopw [5, 13] (fun a i wr => ∃ k : Nat, k ≤ s.size ∧ i = .int .i64 k ∧ a = .int .u64 (sumL (mixI n) (s.data.toList.take k)) ∧ Aside0 (∀ j, j < s.size → wr.cell? ⟨w1.heap.size, j, none⟩ = some (.int .u8 (s.data.toList.getD j 0).toNat)) ∧ Aside0 (Below w.heap.size w wr)) (fun _ i _ => s.size - (intOf i).toNat)
  case atStart => exact ⟨0, Nat.zero_le _, rfl, rfl, ⟨Lib.bytesWorld_cell w1 5 s⟩, ⟨bytes_below HB0.out (below_size HB0.out) 5 s⟩⟩
  case round =>
    obtain ⟨k, hk, rfl, rfl, HC, HB⟩ := hrel
    by_cases hlt : k < s.size
    · have hc := HC.out k hlt
      have he : Aside0 (s.data.toList.getD k 0 = s.data[k]'hlt) := ⟨by rw [List.getD_eq_getElem?_getD, List.getElem?_eq_getElem (by simpa using hlt)]; rfl⟩
      have hv : (s.data[k]'hlt).toNat < 256 := (s.data[k]'hlt).toNat_lt
      have HS : Aside0 (sumL (mixI n) (s.data.toList.take (k + 1)) = mixI (Go.bits .xor .u64 (sumL (mixI n) (s.data.toList.take k)) (((s.data[k]'hlt).toNat : Int) + 1))) := ⟨by rw [sum_take s k hlt, sumL_snoc, he.out]⟩
      have W1 : IntKind.u64.wrap ((s.data[k]'hlt).toNat : Int) = ((s.data[k]'hlt).toNat : Int) := IntWalk.u64_in _ ⟨by omega, by omega⟩
      have W2 : IntKind.u64.wrap (((s.data[k]'hlt).toNat : Int) + 1) = ((s.data[k]'hlt).toNat : Int) + 1 := IntWalk.u64_in _ ⟨by omega, by omega⟩
      go_wp2_with (first | (go_at_call 73; refine (hash_Mix.calls _ _ _ (mix_is _).out).mono ?_; rintro e w2 ⟨rfl, hb⟩))
      go_roundw
      case rel => exact ⟨k + 1, by omega, by go_num, by rw [HS.out], ⟨fun j hj => kept_cell hb (HC.out j hj)⟩, ⟨below_step HB.out hb⟩⟩
      case measure => simp [intOf]; omega
    · have W3 : IntKind.u64.wrap (s.size : Int) = s.size := IntWalk.u64_in _ ⟨by omega, by omega⟩
      have hz : Aside0 (s.data.toList.take k = s.data.toList) := ⟨List.take_of_length_le (by simp; omega)⟩
      go_wp2_with (first | (go_at_call 73; refine (hash_Mix.calls _ _ _ (mix_is _).out).mono ?_; rintro e w2 ⟨rfl, hb⟩))
      go_ret
      exact ⟨ret_u (by unfold sumI; rw [hz.out]), below_step HB.out hb⟩
theorem hash_Sum.calls (a0 : Int) (a1 : ByteArray) (r : Int) (w : World) (h : hash_Sum.f a0 a1 = some r) :
    Calls Try.prog 65 #[.int .u64 a0, .string a1] w fun e w' => e = .returned (.int .u64 r) ∧ Below w.heap.size w w' := by
  unfold hash_Sum.f at h
  by_cases hs : a1.size ≤ 9223372036854775807
  · rw [if_pos hs] at h
    obtain rfl := Option.some.inj h
    exact sum_any a0 a1 w hs
  · rw [if_neg hs] at h; cases h

end Go.Proofs.Ytmnikjhnomphmaa.Q
