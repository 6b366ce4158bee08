-- Laid by wip/tools/hprint.py, a program of this repo, over the kit's print; not a text of print.sh.
import Derived.Test.YtalcmlgkdkbbaaaQ0
import Derived.Test.YtalcmlgkdkbbaaaQ6
namespace Go.Proofs.Ytalcmlgkdkbbaaa.Q
open Go.RowKit Go.Proofs.Ytalcmlgkdkbbaaa.Zip Go.Proofs.YtalcmlgkdkbbaaaW.PrintWords Go.Proofs.YtalcmlgkdkbbaaaW.PrintLast Go.Proofs.YtalcmlgkdkbbaaaW.PrintMore
attribute [local go_sem] max2_int min2_int max_two min_two max_three min_three max_four min_four   -- for this text's walks alone
set_option linter.unusedVariables false
set_option linter.unusedSimpArgs false

/-! ### policy_Slot: given by hand -/
theorem one_calls (k l v b : Int) (w : World) : Calls Try.prog 40 #[.agg #[.int .i64 k, .int .i64 l, .int .i64 v, .int .i64 b]] w fun e w' => e = .returned (.int .i64 1) ∧ Below w.heap.size w w' := by
  go_enter Try.func40, Try.ntmps40
  go_wp2
  go_ret
  exact ⟨rfl, by first | exact Below.refl _ _ | exact (Below.refl _ _).alloc (Nat.le_refl _) _⟩
theorem buckets_calls (k l v b : Int) (w : World) : Calls Try.prog 43 #[.agg #[.int .i64 k, .int .i64 l, .int .i64 v, .int .i64 b]] w fun e w' => e = .returned (.int .i64 b) ∧ Below w.heap.size w w' := by
  go_enter Try.func43, Try.ntmps43
  go_wp2
  go_ret
  exact ⟨rfl, (Below.refl _ _).alloc (Nat.le_refl _) _⟩
theorem rule_slot1 (W : World) : (Instr.field 65 (.agg #[.func (.func 41) #[] #[], .func (.func 40) #[] #[]]) 1).run Try.prog W = .ok (.func (.func 40) #[] #[]) W := by kernel_rfl
theorem rule_slot3 (W : World) : (Instr.field 65 (.agg #[.func (.func 42) #[] #[], .func (.func 43) #[] #[]]) 1).run Try.prog W = .ok (.func (.func 43) #[] #[]) W := by kernel_rfl
theorem rule_slot4 (W : World) (g : Nat) : (Instr.field 65 (.agg #[.func (.func 44) #[] #[.pointer (some ⟨g, 0, none⟩)], .func (.func 40) #[] #[]]) 1).run Try.prog W = .ok (.func (.func 40) #[] #[]) W := by kernel_rfl
set_option maxHeartbeats 2000000 in
theorem slot_no (k l v b : Int) (w : World) (h : Aside0 (policy_Check.f k l v b = some 1)) : Calls Try.prog 36 #[.agg #[.int .i64 k, .int .i64 l, .int .i64 v, .int .i64 b]] w fun e w' => e = .returned (.int .i64 0) ∧ Below w.heap.size w w' := by
  go_enter Try.func36, Try.ntmps36
  go_wp2_with (first | (go_at_call 32; refine (policy_Check.calls _ _ _ _ _ _ h.out).mono ?_; rintro e w1 ⟨rfl, hb⟩))
  go_ret
  exact ⟨rfl, ((Below.refl _ _).alloc (Nat.le_refl _) _).trans (hb.mono (by simp))⟩
/-- The cells of a policy in a block of the call's own, behind what came since. -/
theorem box_keep {w w1 : World} {a b c d : Value} {t : TypeId} (hb : Below (w.alloc (.cells #[a, b, c, d] t)).heap.size (w.alloc (.cells #[a, b, c, d] t)) w1) :
    w1.cell? ⟨w.heap.size, 0, none⟩ = some a ∧ w1.cell? ⟨w.heap.size, 1, none⟩ = some b ∧ w1.cell? ⟨w.heap.size, 2, none⟩ = some c ∧ w1.cell? ⟨w.heap.size, 3, none⟩ = some d ∧ Below w.heap.size w w1 := by
  refine ⟨?_, ?_, ?_, ?_, ((Below.refl _ _).alloc (Nat.le_refl _) _).trans (hb.mono (by simp))⟩
  all_goals exact cell_keep hb (by go_simp)
set_option maxHeartbeats 4000000 in
theorem slot_1 (l v b : Int) (w : World) (v0 : 1 ≤ v) (v1 : v ≤ 1048576) (h : Aside0 (policy_Check.f 1 l v b = some 0)) : Calls Try.prog 36 #[.agg #[.int .i64 1, .int .i64 l, .int .i64 v, .int .i64 b]] w fun e w' => e = .returned (.int .i64 v) ∧ Below w.heap.size w w' := by
  have hi := rule_at1
  have hm := rule_slot1
  go_enter Try.func36, Try.ntmps36
  go_wp2_with (first | (go_at_call 32; refine (policy_Check.calls _ _ _ _ _ _ h.out).mono ?_; rintro e w1 ⟨rfl, hb⟩; obtain ⟨c0, c1, c2, c3, hb0⟩ := box_keep hb; clear hb))
  go_region_held3 (fun w' => w'.cell? ⟨w.heap.size, 0, none⟩ = some (.int .i64 1) ∧ w'.cell? ⟨w.heap.size, 1, none⟩ = some (.int .i64 l) ∧ w'.cell? ⟨w.heap.size, 2, none⟩ = some (.int .i64 v) ∧ w'.cell? ⟨w.heap.size, 3, none⟩ = some (.int .i64 b) ∧ Below w.heap.size w w') ((first | assumption | exact keep4 (by assumption) (by assumption) | exact ⟨by go_simp, by go_simp, by go_simp, by go_simp, below_drew1 hb0⟩))
    (first | (go_at_call 38; refine (rules_calls _).mono ?_; rintro e w4 ⟨g, hg, hgc, rfl, hb4⟩)
           | (go_at_call 40; refine (one_calls _ _ _ _ _).mono ?_; rintro e w5 ⟨rfl, hb5⟩))
  clear hi hm
  go_wp2
  go_ret
  exact ⟨by first | rfl | (simp; first | exact IntWalk.i64_in v ⟨by omega, by omega⟩ | exact (Int.tdiv_eq_ediv_of_nonneg (by omega)).symm), of5 (by assumption)⟩
set_option maxHeartbeats 4000000 in
theorem slot_2 (l v b : Int) (w : World) (v0 : 1 ≤ v) (v1 : v ≤ 1048576) (h : Aside0 (policy_Check.f 2 l v b = some 0)) : Calls Try.prog 36 #[.agg #[.int .i64 2, .int .i64 l, .int .i64 v, .int .i64 b]] w fun e w' => e = .returned (.int .i64 v) ∧ Below w.heap.size w w' := by
  have hi := rule_at2
  have hm := rule_slot1
  go_enter Try.func36, Try.ntmps36
  go_wp2_with (first | (go_at_call 32; refine (policy_Check.calls _ _ _ _ _ _ h.out).mono ?_; rintro e w1 ⟨rfl, hb⟩; obtain ⟨c0, c1, c2, c3, hb0⟩ := box_keep hb; clear hb))
  go_region_held3 (fun w' => w'.cell? ⟨w.heap.size, 0, none⟩ = some (.int .i64 2) ∧ w'.cell? ⟨w.heap.size, 1, none⟩ = some (.int .i64 l) ∧ w'.cell? ⟨w.heap.size, 2, none⟩ = some (.int .i64 v) ∧ w'.cell? ⟨w.heap.size, 3, none⟩ = some (.int .i64 b) ∧ Below w.heap.size w w') ((first | assumption | exact keep4 (by assumption) (by assumption) | exact ⟨by go_simp, by go_simp, by go_simp, by go_simp, below_drew1 hb0⟩))
    (first | (go_at_call 38; refine (rules_calls _).mono ?_; rintro e w4 ⟨g, hg, hgc, rfl, hb4⟩)
           | (go_at_call 40; refine (one_calls _ _ _ _ _).mono ?_; rintro e w5 ⟨rfl, hb5⟩))
  clear hi hm
  go_wp2
  go_ret
  exact ⟨by first | rfl | (simp; first | exact IntWalk.i64_in v ⟨by omega, by omega⟩ | exact (Int.tdiv_eq_ediv_of_nonneg (by omega)).symm), of5 (by assumption)⟩
set_option maxHeartbeats 4000000 in
theorem slot_3 (l v b : Int) (w : World) (v0 : 1 ≤ v) (v1 : v ≤ 1048576) (b0 : 1 ≤ b) (h : Aside0 (policy_Check.f 3 l v b = some 0)) : Calls Try.prog 36 #[.agg #[.int .i64 3, .int .i64 l, .int .i64 v, .int .i64 b]] w fun e w' => e = .returned (.int .i64 (Int.tdiv v b)) ∧ Below w.heap.size w w' := by
  have hi := rule_at3
  have hm := rule_slot3
  have b1 : (b == 0) = false := by simp; omega
  have b2 : ¬ b = 0 := by omega
  have b3 := IntWalk.tdiv_le v b (by omega) b0
  obtain ⟨b4, b5⟩ := b3
  have b6 : IntKind.i64.wrap (v.tdiv b) = v / b := by rw [Int.tdiv_eq_ediv_of_nonneg (by omega)]; exact IntWalk.i64_in _ ⟨by omega, by omega⟩
  go_enter Try.func36, Try.ntmps36
  go_wp2_with (first | (go_at_call 32; refine (policy_Check.calls _ _ _ _ _ _ h.out).mono ?_; rintro e w1 ⟨rfl, hb⟩; obtain ⟨c0, c1, c2, c3, hb0⟩ := box_keep hb; clear hb))
  go_region_held3 (fun w' => w'.cell? ⟨w.heap.size, 0, none⟩ = some (.int .i64 3) ∧ w'.cell? ⟨w.heap.size, 1, none⟩ = some (.int .i64 l) ∧ w'.cell? ⟨w.heap.size, 2, none⟩ = some (.int .i64 v) ∧ w'.cell? ⟨w.heap.size, 3, none⟩ = some (.int .i64 b) ∧ Below w.heap.size w w') ((first | assumption | exact keep4 (by assumption) (by assumption) | exact ⟨by go_simp, by go_simp, by go_simp, by go_simp, below_drew1 hb0⟩))
    (first | (go_at_call 38; refine (rules_calls _).mono ?_; rintro e w4 ⟨g, hg, hgc, rfl, hb4⟩)
           | (go_at_call 43; refine (buckets_calls _ _ _ _ _).mono ?_; rintro e w5 ⟨rfl, hb5⟩))
  clear hi hm
  go_wp2
  go_ret
  exact ⟨by first | rfl | (simp; first | exact IntWalk.i64_in v ⟨by omega, by omega⟩ | exact (Int.tdiv_eq_ediv_of_nonneg (by omega)).symm), of5 (by assumption)⟩
set_option maxHeartbeats 4000000 in
theorem slot_4 (l v b : Int) (w : World) (v0 : 1 ≤ v) (v1 : v ≤ 1048576) (h : Aside0 (policy_Check.f 4 l v b = some 0)) : Calls Try.prog 36 #[.agg #[.int .i64 4, .int .i64 l, .int .i64 v, .int .i64 b]] w fun e w' => e = .returned (.int .i64 v) ∧ Below w.heap.size w w' := by
  have hi := rule_at4
  have hm := rule_slot4
  go_enter Try.func36, Try.ntmps36
  go_wp2_with (first | (go_at_call 32; refine (policy_Check.calls _ _ _ _ _ _ h.out).mono ?_; rintro e w1 ⟨rfl, hb⟩; obtain ⟨c0, c1, c2, c3, hb0⟩ := box_keep hb; clear hb))
  go_region_held3 (fun w' => w'.cell? ⟨w.heap.size, 0, none⟩ = some (.int .i64 4) ∧ w'.cell? ⟨w.heap.size, 1, none⟩ = some (.int .i64 l) ∧ w'.cell? ⟨w.heap.size, 2, none⟩ = some (.int .i64 v) ∧ w'.cell? ⟨w.heap.size, 3, none⟩ = some (.int .i64 b) ∧ Below w.heap.size w w') ((first | assumption | exact keep4 (by assumption) (by assumption) | exact ⟨by go_simp, by go_simp, by go_simp, by go_simp, below_drew1 hb0⟩))
    (first | (go_at_call 38; refine (rules_calls _).mono ?_; rintro e w4 ⟨g, hg, hgc, rfl, hb4⟩)
           | (go_at_call 40; refine (one_calls _ _ _ _ _).mono ?_; rintro e w5 ⟨rfl, hb5⟩))
  clear hi hm
  go_wp2
  go_ret
  exact ⟨by first | rfl | (simp; first | exact IntWalk.i64_in v ⟨by omega, by omega⟩ | exact (Int.tdiv_eq_ediv_of_nonneg (by omega)).symm), of5 (by assumption)⟩
theorem pol_one {k l v b : Int} (h : polOk k l v b = true) : (k = 1 ∨ k = 2 ∨ k = 3 ∨ k = 4) ∧ 1 ≤ v ∧ v ≤ 1048576 ∧ (k = 3 → 1 ≤ b) := by
  unfold polOk withinB at h
  simp only [Bool.and_eq_true, decide_eq_true_eq] at h
  obtain ⟨⟨⟨hk, _⟩, hv⟩, hb⟩ := h
  refine ⟨by omega, hv.1, hv.2, fun h3 => ?_⟩
  rw [if_pos h3] at hb
  unfold ringB withinB at hb
  simp only [Bool.and_eq_true, decide_eq_true_eq] at hb
  exact hb.1.1
def slotV (k v b : Int) : Int := if k = 3 then Int.tdiv v b else v
def policy_Slot.f (a0_0 : Int) (a0_1 : Int) (a0_2 : Int) (a0_3 : Int) : Option (Int) := some (if polOk a0_0 a0_1 a0_2 a0_3 = true then slotV a0_0 a0_2 a0_3 else 0)
theorem policy_Slot.calls (a0_0 : Int) (a0_1 : Int) (a0_2 : Int) (a0_3 : Int) (r : Int) (w : World) (h : policy_Slot.f a0_0 a0_1 a0_2 a0_3 = some r) :
  Calls Try.prog 36 #[.agg #[.int .i64 a0_0, .int .i64 a0_1, .int .i64 a0_2, .int .i64 a0_3]] w fun e w' => e = .returned (.int .i64 r) ∧ Below w.heap.size w w' := by
 obtain rfl := Option.some.inj h
 clear h
 cases hp : polOk a0_0 a0_1 a0_2 a0_3
 ·exact slot_no _ _ _ _ _ ⟨by unfold policy_Check.f; rw [hp]; rfl⟩
 ·have hc : policy_Check.f a0_0 a0_1 a0_2 a0_3 = some 0 := by unfold policy_Check.f; rw [hp]; rfl
  obtain ⟨h4, v0, v1, h3⟩ := pol_one hp
  rw [if_pos rfl]
  rcases h4 with rfl | rfl | rfl | rfl
  ·exact slot_1 _ _ _ _ v0 v1 ⟨hc⟩
  ·exact slot_2 _ _ _ _ v0 v1 ⟨hc⟩
  ·exact slot_3 _ _ _ _ v0 v1 (h3 rfl) ⟨hc⟩
  ·exact slot_4 _ _ _ _ v0 v1 ⟨hc⟩

end Go.Proofs.Ytalcmlgkdkbbaaa.Q
