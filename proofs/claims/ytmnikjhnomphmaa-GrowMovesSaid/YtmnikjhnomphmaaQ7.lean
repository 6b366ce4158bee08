-- Laid by wip/tools/hprint.py, a program of this repo, over the kit's print; not a text of print.sh.
import Derived.Test.YtmnikjhnomphmaaQ0
import Derived.Test.YtmnikjhnomphmaaQ2
import Derived.Test.YtmnikjhnomphmaaQ3
import Derived.Test.YtmnikjhnomphmaaQ5
import Derived.Test.YtmnikjhnomphmaaQ6
namespace Go.Proofs.Ytmnikjhnomphmaa.Q
open Go.RowKit Go.Proofs.Ytmnikjhnomphmaa.Zip Go.Proofs.YtmnikjhnomphmaaW.PrintWords Go.Proofs.YtmnikjhnomphmaaW.PrintLast Go.Proofs.YtmnikjhnomphmaaW.PrintMore
attribute [local go_sem] max2_int min2_int max_two min_two max_three min_three max_four min_four   -- for this text's walks alone
set_option linter.unusedVariables false
set_option linter.unusedSimpArgs false

/-! ### robin_Table_home: given by hand -/
def homeN (sd : Int) (b : Nat) (key : ByteArray) : Nat := (sumI sd key / 2 ^ (64 - b)).toNat
theorem sumI_U (a : Int) (s : ByteArray) : 0 ≤ sumI a s ∧ sumI a s ≤ 18446744073709551615 := by
  unfold sumI mixI mix3
  exact ⟨by rw [IntKind.wrap_u64]; omega, by rw [IntKind.wrap_u64]; omega⟩
theorem wrT {x : Int} (h0 : -9223372036854775808 ≤ x) (h1 : x < 9223372036854775808) : wrap64 x = x := by unfold wrap64; omega
theorem home_at {x : Int} (hx : 0 ≤ x ∧ x ≤ 18446744073709551615) (b : Nat) (h0 : 1 ≤ b) (h1 : b ≤ 62) : hash_Home.f 1 x (b : Int) = some (x / 2 ^ (64 - b)) ∧ 0 ≤ x / 2 ^ (64 - b) ∧ x / 2 ^ (64 - b) < 2 ^ b := by
  have p : (2 : Int) ^ b * 2 ^ (64 - b) = 18446744073709551616 := by rw [← Int.pow_add, show b + (64 - b) = 64 by omega]; rfl
  have p0 : (0 : Int) < 2 ^ (64 - b) := Int.pow_pos (by omega)
  have q0 : 0 ≤ x / 2 ^ (64 - b) := Int.ediv_nonneg hx.1 (by omega)
  have q1 : x / 2 ^ (64 - b) < 2 ^ b := Int.ediv_lt_of_lt_mul p0 (by omega)
  have r : (2 : Int) ^ b ≤ 2 ^ 62 := by
    have : (2 : Nat) ^ b ≤ 2 ^ 62 := Nat.pow_le_pow_right (by omega) h1
    exact_mod_cast this
  refine ⟨?_, q0, q1⟩
  unfold hash_Home.f
  have e : wrap64 (64 - (b : Int)) = ((64 - b : Nat) : Int) := by rw [wrT (by omega) (by omega)]; omega
  have s : shr .u64 x ((64 - b : Nat) : Int) = x / 2 ^ (64 - b) := by
    unfold shr
    have : min (((64 - b : Nat) : Int)).toNat IntKind.u64.bits = 64 - b := by
      have : IntKind.u64.bits = 64 := rfl
      rw [this, Int.toNat_natCast]; omega
    rw [this]
  rw [if_neg (by omega), decide_eq_false (by omega)]
  simp only [hash_Home.j0, Bool.false_eq_true, if_false, e]
  rw [if_pos (by omega), s, wrT (by omega) (by omega)]
theorem homeN_is (sd : Int) (b : Nat) (key : ByteArray) (h0 : 1 ≤ b) (h1 : b ≤ 62) : hash_Home.f 1 (sumI sd key) (b : Int) = some (homeN sd b key : Int) := by
  obtain ⟨a1, a2, a3⟩ := home_at (sumI_U sd key) b h0 h1
  rw [a1]
  unfold homeN
  rw [Int.toNat_of_nonneg a2]
theorem homeN_lt (sd : Int) (b : Nat) (key : ByteArray) (h0 : 1 ≤ b) (h1 : b ≤ 62) : homeN sd b key < 2 ^ b := by
  obtain ⟨a1, a2, a3⟩ := home_at (sumI_U sd key) b h0 h1
  unfold homeN
  have : ((sumI sd key / 2 ^ (64 - b)).toNat : Int) < ((2 ^ b : Nat) : Int) := by rw [Int.toNat_of_nonneg a2]; exact_mod_cast a3
  exact_mod_cast this
def robin_Table_home.f : Option Int := some 0
theorem robin_Table_home.calls (g gs : Nat) (sd us : Int) (b : Nat) (l : List S84) (key : ByteArray) (w : World) (ht : Tab g gs sd (b : Int) l us w) (h0 : 1 ≤ b) (h1 : b ≤ 8) (hk : key.size ≤ 4611686018427387904) :
    Calls Try.prog 48 #[.pointer (some ⟨g, 0, none⟩), .string key] w fun e w' => e = .returned (.int .i64 (homeN sd b key : Int)) ∧ Below w.heap.size w w' := by
  have HT := Aside0.mk ht
  have c0 : w.drew.cell? ⟨g, 0, none⟩ = some (.int .u64 sd) := (blk_cell ht.hd 0).trans rfl
  have c1 : w.drew.cell? ⟨g, 1, none⟩ = some (.int .i64 (b : Int)) := (blk_cell ht.hd 1).trans rfl
  have HS := Aside0.mk (show hash_Sum.f sd key = some (sumI sd key) by unfold hash_Sum.f; rw [if_pos (by omega)])
  have HH := Aside0.mk (homeN_is sd b key h0 (by omega))
  clear ht
  go_enter Try.func48, Try.ntmps48
  go_upto_region 1 with (fail)
  go_region_with (first | (go_at_call 65; refine (hash_Sum.calls sd key _ _ HS.out).mono ?_; rintro e w1 ⟨rfl, hb⟩; have HB := Aside0.mk hb; have c2 := pw_cell_below hb c1; clear hb) | (go_at_call 64; refine (hash_Home.calls 1 _ _ _ _ HH.out).mono ?_; rintro e w2 ⟨rfl, ⟨n2, rfl⟩⟩))
  all_goals
    go_wp2
    go_ret
    exact ⟨rfl, pw_below_drewN ((below_drew (Below.refl _ w)).trans HB.out) n2⟩

end Go.Proofs.Ytmnikjhnomphmaa.Q
