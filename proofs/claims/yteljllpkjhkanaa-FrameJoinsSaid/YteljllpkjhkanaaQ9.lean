-- Laid by wip/tools/hprint.py, a program of this repo, over the kit's print; not a text of print.sh.
import Derived.Test.YteljllpkjhkanaaQ0
import Derived.Test.YteljllpkjhkanaaQ8
namespace Go.Proofs.Yteljllpkjhkanaa.Q
open Go.RowKit Go.Proofs.Yteljllpkjhkanaa.Zip Go.Proofs.YteljllpkjhkanaaW.PrintWords Go.Proofs.YteljllpkjhkanaaW.PrintLast Go.Proofs.YteljllpkjhkanaaW.PrintMore
attribute [local go_sem] max2_int min2_int max_two min_two max_three min_three max_four min_four   -- for this text's walks alone
set_option linter.unusedVariables false
set_option linter.unusedSimpArgs false

/-! ### frame_Encode: given by hand -/
def frame_Encode.f (k : Nat) (s : ByteArray) : Option (ByteArray × Int) := if s.size = 0 then some (⟨#[]⟩, 1) else if s.size > 512 then none else (nums_Wide.f k (s.size : Int) 2).bind fun t => if t.size + s.size ≤ 9223372036854775807 then some (t ++ s, 0) else none
theorem frame_Encode.mono : ∀ a0 k, LeO (frame_Encode.f k a0) (frame_Encode.f (k + 1) a0) := by
  intro s k
  unfold frame_Encode.f
  split
  · exact LeO.refl _
  · split
    · exact LeO.refl _
    · exact LeO.bind (nums_Wide.mono _ _ _) (fun _ => LeO.refl _)
set_option maxHeartbeats 4000000 in
theorem frame_Encode.calls (k : Nat) (s : ByteArray) (r1 : ByteArray) (r2 : Int) (w : World) (h : frame_Encode.f k s = some (r1, r2)) :
    Calls Try.prog 13 #[.string s] w fun e w' => e = .returned (.tuple #[.string r1, .int .i64 r2]) ∧ Below w.heap.size w w' := by
  unfold frame_Encode.f at h
  by_cases h1 : s.size = 0
  · rw [if_pos h1] at h
    obtain ⟨rfl, rfl⟩ : (⟨#[]⟩ : ByteArray) = r1 ∧ (1 : Int) = r2 := by simpa using h
    obtain ⟨⟨d⟩⟩ := s
    obtain rfl : d = [] := List.eq_nil_of_length_eq_zero h1
    have c1 : ((⟨⟨[]⟩⟩ : ByteArray).toList == ([] : List UInt8)) = true := by rw [ByteArray.toList_eq]; rfl
    go_enter Try.func13, Try.ntmps13
    go_wp2
    go_ret2
    exact ⟨rfl, Below.refl _ _⟩
  rw [if_neg h1] at h
  split at h
  · cases h
  rename_i h2
  obtain ⟨t, ht, h⟩ := Option.bind_eq_some_iff.1 h
  split at h
  case isFalse => cases h
  rename_i h3
  obtain ⟨rfl, rfl⟩ : t ++ s = r1 ∧ (0 : Int) = r2 := by simpa using h
  have HT := Aside0.mk ht
  clear h ht
  have c0 : s.toList ≠ [] := by
    intro e
    rw [ByteArray.toList_eq] at e
    obtain ⟨⟨d⟩⟩ := s
    exact h1 (congrArg List.length e)
  have c1 : (s.toList == ([] : List UInt8)) = false := beq_eq_false_iff_ne.mpr c0
  have c2 : decide ((s.size : Int) > 512) = false := decide_eq_false (by omega)
  have c3 : decide (512 < s.size) = false := decide_eq_false (by omega)
  have c4 : decide ((512 : Int) < (s.size : Int)) = false := decide_eq_false (by omega)
  have w1 : IntKind.u64.wrap (s.size : Int) = (s.size : Int) := by rw [IntKind.wrap_u64]; omega
  have w2 : (s.size : Int) % 18446744073709551616 = (s.size : Int) := by omega
  go_enter Try.func13, Try.ntmps13
  go_wp2_with (first | (go_at_call 16; go_loud (refine (nums_Wide.calls k (s.size : Int) 2 t _ HT.out).mono ?_; rintro e w1 ⟨rfl, hb⟩; have HB := Aside0.mk hb; clear hb)))
  go_ret2
  exact ⟨rfl, HB.out⟩

end Go.Proofs.Yteljllpkjhkanaa.Q
