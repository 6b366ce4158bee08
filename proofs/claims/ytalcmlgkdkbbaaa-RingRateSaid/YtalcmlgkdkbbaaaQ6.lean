-- Laid by wip/tools/hprint.py, a program of this repo, over the kit's print; not a text of print.sh.
import Derived.Test.YtalcmlgkdkbbaaaQ0
import Derived.Test.YtalcmlgkdkbbaaaQ5
namespace Go.Proofs.Ytalcmlgkdkbbaaa.Q
open Go.RowKit Go.Proofs.Ytalcmlgkdkbbaaa.Zip Go.Proofs.YtalcmlgkdkbbaaaW.PrintWords Go.Proofs.YtalcmlgkdkbbaaaW.PrintLast Go.Proofs.YtalcmlgkdkbbaaaW.PrintMore
attribute [local go_sem] max2_int min2_int max_two min_two max_three min_three max_four min_four   -- for this text's walks alone
set_option linter.unusedVariables false
set_option linter.unusedSimpArgs false

/-! ### policy_Check: given by hand -/
theorem bcell {W w1 : World} (hb : Below W.heap.size W w1) : (∀ b o, b < W.heap.size → w1.cell? ⟨b, o, none⟩ = W.cell? ⟨b, o, none⟩) ∧ (∀ b o, b < W.heap.size → w1.frozen? ⟨b, o, none⟩ = W.frozen? ⟨b, o, none⟩) :=
  ⟨fun b o h => hb.cell (p := ⟨b, o, none⟩) h, fun b o h => hb.frozen (p := ⟨b, o, none⟩) h⟩
theorem cell_keep {W w1 : World} {p : Addr} {v : Value} (hb : Below W.heap.size W w1) (h : W.cell? p = some v) : w1.cell? p = some v := by
  have hlt : p.block < W.heap.size := by
    unfold World.cell? at h
    rcases Nat.lt_or_ge p.block W.heap.size with h1 | h1
    · exact h1
    · rw [Array.getElem?_eq_none h1] at h; cases h
  rw [hb.cell hlt, h]
theorem keep4 {w0 W w1 : World} {p0 p1 p2 p3 : Addr} {v0 v1 v2 v3 : Value} (hb : Below W.heap.size W w1) (h : W.cell? p0 = some v0 ∧ W.cell? p1 = some v1 ∧ W.cell? p2 = some v2 ∧ W.cell? p3 = some v3 ∧ Below w0.heap.size w0 W) :
    w1.cell? p0 = some v0 ∧ w1.cell? p1 = some v1 ∧ w1.cell? p2 = some v2 ∧ w1.cell? p3 = some v3 ∧ Below w0.heap.size w0 w1 :=
  ⟨cell_keep hb h.1, cell_keep hb h.2.1, cell_keep hb h.2.2.1, cell_keep hb h.2.2.2.1, below_step h.2.2.2.2 hb⟩
theorem of5 {a b c d e : Prop} (h : a ∧ b ∧ c ∧ d ∧ e) : e := h.2.2.2.2
theorem rules_calls (w : World) : Calls Try.prog 38 #[] w fun e w' => ∃ b : Nat, w.heap.size ≤ b ∧ w'.cell? ⟨b, 0, none⟩ = some (.func (.func 41) #[] #[]) ∧ e = .returned (.agg #[.nilFunc, .nilFunc, .func (.func 41) #[] #[], .func (.func 40) #[] #[], .func (.func 41) #[] #[], .func (.func 40) #[] #[], .func (.func 42) #[] #[], .func (.func 43) #[] #[], .func (.func 44) #[] #[.pointer (some ⟨b, 0, none⟩)], .func (.func 40) #[] #[]]) ∧ Below w.heap.size w w' := by
  go_enter Try.func38, Try.ntmps38
  go_wp2
  refine bodyPost_ret (results_cell_row rfl _ _ w.heap.size 66 _ (0, 0) _ rfl (blk_alloc (blk_new _ _) _) Try.underlying66 rfl (by kernel_rfl)) rfl ⟨w.heap.size + 1, by omega, by go_simp, rfl, ?_⟩
  exact ((Below.refl _ _).alloc (Nat.le_refl _) _).alloc (by simp) _

set_option maxHeartbeats 4000000 in
theorem plain_calls (k l v b : Int) (w : World) : Calls Try.prog 41 #[.agg #[.int .i64 k, .int .i64 l, .int .i64 v, .int .i64 b]] w fun e w' => e = .returned (.bool (b == 0)) ∧ Below w.heap.size w w' := by
  go_enter Try.func41, Try.ntmps41
  go_wp2
  go_ret
  exact ⟨rfl, (Below.refl _ _).alloc (Nat.le_refl _) _⟩


def exactB (b l : Int) : Bool := (b == 0) && decide (l ≤ 16)
set_option maxHeartbeats 4000000 in
theorem exactmay_calls (k l v b : Int) (g : Nat) (w : World) (hg : w.cell? ⟨g, 0, none⟩ = some (.func (.func 41) #[] #[])) : Calls Try.prog 44 #[.agg #[.int .i64 k, .int .i64 l, .int .i64 v, .int .i64 b], .pointer (some ⟨g, 0, none⟩)] w fun e w' => e = .returned (.bool (exactB b l)) ∧ Below w.heap.size w w' := by
  have hb : g < w.heap.size := by
    unfold World.cell? at hg
    rcases Nat.lt_or_ge g w.heap.size with h | h
    · exact h
    · rw [Array.getElem?_eq_none h] at hg; cases hg
  cases hbb : (b == 0)
  · go_enter Try.func44, Try.ntmps44
    go_wp2_with (first | (go_at_call 41; refine (plain_calls _ _ _ _ _).mono ?_; rintro e w1 ⟨rfl, hb1⟩; obtain ⟨hc1, hf1⟩ := bcell hb1))
    go_ret
    exact ⟨by simp [exactB, hbb], ((Below.refl _ _).alloc (Nat.le_refl _) _).trans (hb1.mono (by simp))⟩
  · go_enter Try.func44, Try.ntmps44
    go_wp2_with (first | (go_at_call 41; refine (plain_calls _ _ _ _ _).mono ?_; rintro e w1 ⟨rfl, hb1⟩; obtain ⟨hc1, hf1⟩ := bcell hb1))
    go_ret
    exact ⟨by simp [exactB, hbb], ((Below.refl _ _).alloc (Nat.le_refl _) _).trans (hb1.mono (by simp))⟩

def withinB (a b : Int) : Bool := decide (1 ≤ a) && decide (a ≤ b)
theorem within_q (a b : Int) (w : World) : Calls Try.prog 34 #[.int .i64 a, .int .i64 b] w fun e w' => e = .returned (.bool (withinB a b)) ∧ ∃ m, w' = w.drewN m := by
  refine (policy_within_int.calls a b (withinB a b) w ?_).mono ?_
  · unfold policy_within_int.f withinB
    by_cases h1 : a ≥ 1
    · rw [if_pos h1]; simp [show 1 ≤ a from h1]
    · rw [if_neg h1]; simp [show ¬ 1 ≤ a from h1]
  · rintro e w' ⟨rfl, n, rfl⟩; exact ⟨rfl, n, rfl⟩
theorem within_calls (a b : Int) (w : World) : Calls Try.prog 34 #[.int .i64 a, .int .i64 b] w fun e w' => e = .returned (.bool (withinB a b)) ∧ Below w.heap.size w w' := by
  refine (within_q a b w).mono ?_
  rintro e w' ⟨rfl, n, rfl⟩; exact ⟨rfl, pw_below_drewN (Below.refl _ _) _⟩

def ringB (v b : Int) : Bool := withinB b 16 && (Int.tmod v b == 0)
set_option maxHeartbeats 1000000 in
theorem ringmay_calls (k l v b : Int) (w : World) : Calls Try.prog 42 #[.agg #[.int .i64 k, .int .i64 l, .int .i64 v, .int .i64 b]] w fun e w' => e = .returned (.bool (ringB v b)) ∧ Below w.heap.size w w' := by
  cases hbb : withinB b 16
  · go_enter Try.func42, Try.ntmps42
    go_wp2_with (first | (go_at_call 34; refine (within_q _ _ _).mono ?_; rintro e w1 ⟨rfl, n, rfl⟩))
    go_ret
    exact ⟨by simp [ringB, hbb], pw_below_drewN ((Below.refl _ _).alloc (Nat.le_refl _) _) _⟩
  · have h1 : ¬ b = 0 := by
      intro h; rw [h] at hbb; exact absurd hbb (by decide)
    have h2 : (b == 0) = false := by simpa using h1
    go_enter Try.func42, Try.ntmps42
    go_wp2_with (first | (go_at_call 34; refine (within_q _ _ _).mono ?_; rintro e w1 ⟨rfl, n, rfl⟩))
    go_ret
    exact ⟨by simp [ringB, hbb], pw_below_drewN ((Below.refl _ _).alloc (Nat.le_refl _) _) _⟩

set_option maxHeartbeats 1000000 in
theorem check_k (k l v b : Int) (w : World) (hk : withinB k 4 = false) : Calls Try.prog 32 #[.agg #[.int .i64 k, .int .i64 l, .int .i64 v, .int .i64 b]] w fun e w' => e = .returned (.int .i64 1) ∧ Below w.heap.size w w' := by
  go_enter Try.func32, Try.ntmps32
  go_wp2_with fail
  go_quiet ((go_at_call 34; exact Calls.quiet_of (within_q _ _ _)))
  go_wp2
  go_ret
  exact ⟨rfl, pw_below_drewN ((Below.refl _ _).alloc (Nat.le_refl _) _) _⟩

set_option maxHeartbeats 1000000 in
theorem check_l (k l v b : Int) (w : World) (hk : withinB k 4 = true) (hl : withinB l 1048576 = false) : Calls Try.prog 32 #[.agg #[.int .i64 k, .int .i64 l, .int .i64 v, .int .i64 b]] w fun e w' => e = .returned (.int .i64 1) ∧ Below w.heap.size w w' := by
  go_enter Try.func32, Try.ntmps32
  go_wp2_with fail
  go_quiet ((go_at_call 34; exact Calls.quiet_of (within_q _ _ _)))
  go_wp2
  go_ret
  exact ⟨rfl, pw_below_drewN ((Below.refl _ _).alloc (Nat.le_refl _) _) _⟩

set_option maxHeartbeats 1000000 in
theorem check_v (k l v b : Int) (w : World) (hk : withinB k 4 = true) (hl : withinB l 1048576 = true) (hv : withinB v 1048576 = false) : Calls Try.prog 32 #[.agg #[.int .i64 k, .int .i64 l, .int .i64 v, .int .i64 b]] w fun e w' => e = .returned (.int .i64 1) ∧ Below w.heap.size w w' := by
  go_enter Try.func32, Try.ntmps32
  go_wp2_with fail
  go_quiet ((go_at_call 34; exact Calls.quiet_of (within_q _ _ _)))
  go_wp2
  go_ret
  exact ⟨rfl, pw_below_drewN ((Below.refl _ _).alloc (Nat.le_refl _) _) _⟩

theorem rule_at1 (W : World) (g : Nat) : (Instr.index 66 (.agg #[.nilFunc, .nilFunc, .func (.func 41) #[] #[], .func (.func 40) #[] #[], .func (.func 41) #[] #[], .func (.func 40) #[] #[], .func (.func 42) #[] #[], .func (.func 43) #[] #[], .func (.func 44) #[] #[.pointer (some ⟨g, 0, none⟩)], .func (.func 40) #[] #[]]) (.int .i64 1)).run Try.prog W = .ok (.agg #[.func (.func 41) #[] #[], .func (.func 40) #[] #[]]) W := by kernel_rfl
theorem rule_at2 (W : World) (g : Nat) : (Instr.index 66 (.agg #[.nilFunc, .nilFunc, .func (.func 41) #[] #[], .func (.func 40) #[] #[], .func (.func 41) #[] #[], .func (.func 40) #[] #[], .func (.func 42) #[] #[], .func (.func 43) #[] #[], .func (.func 44) #[] #[.pointer (some ⟨g, 0, none⟩)], .func (.func 40) #[] #[]]) (.int .i64 2)).run Try.prog W = .ok (.agg #[.func (.func 41) #[] #[], .func (.func 40) #[] #[]]) W := by kernel_rfl
theorem rule_at3 (W : World) (g : Nat) : (Instr.index 66 (.agg #[.nilFunc, .nilFunc, .func (.func 41) #[] #[], .func (.func 40) #[] #[], .func (.func 41) #[] #[], .func (.func 40) #[] #[], .func (.func 42) #[] #[], .func (.func 43) #[] #[], .func (.func 44) #[] #[.pointer (some ⟨g, 0, none⟩)], .func (.func 40) #[] #[]]) (.int .i64 3)).run Try.prog W = .ok (.agg #[.func (.func 42) #[] #[], .func (.func 43) #[] #[]]) W := by kernel_rfl
theorem rule_at4 (W : World) (g : Nat) : (Instr.index 66 (.agg #[.nilFunc, .nilFunc, .func (.func 41) #[] #[], .func (.func 40) #[] #[], .func (.func 41) #[] #[], .func (.func 40) #[] #[], .func (.func 42) #[] #[], .func (.func 43) #[] #[], .func (.func 44) #[] #[.pointer (some ⟨g, 0, none⟩)], .func (.func 40) #[] #[]]) (.int .i64 4)).run Try.prog W = .ok (.agg #[.func (.func 44) #[] #[.pointer (some ⟨g, 0, none⟩)], .func (.func 40) #[] #[]]) W := by kernel_rfl
theorem rule_may1 (W : World) : (Instr.field 65 (.agg #[.func (.func 41) #[] #[], .func (.func 40) #[] #[]]) 0).run Try.prog W = .ok (.func (.func 41) #[] #[]) W := by kernel_rfl
theorem rule_may3 (W : World) : (Instr.field 65 (.agg #[.func (.func 42) #[] #[], .func (.func 43) #[] #[]]) 0).run Try.prog W = .ok (.func (.func 42) #[] #[]) W := by kernel_rfl
theorem rule_may4 (W : World) (g : Nat) : (Instr.field 65 (.agg #[.func (.func 44) #[] #[.pointer (some ⟨g, 0, none⟩)], .func (.func 40) #[] #[]]) 0).run Try.prog W = .ok (.func (.func 44) #[] #[.pointer (some ⟨g, 0, none⟩)]) W := by kernel_rfl
set_option maxHeartbeats 2000000 in
theorem check_1t (l v b : Int) (w : World) (hk : withinB 1 4 = true) (hl : withinB l 1048576 = true) (hv : withinB v 1048576 = true) (hb : (b == 0) = true) : Calls Try.prog 32 #[.agg #[.int .i64 1, .int .i64 l, .int .i64 v, .int .i64 b]] w fun e w' => e = .returned (.int .i64 0) ∧ Below w.heap.size w w' := by
  have hi := rule_at1
  have hm := rule_may1
  go_enter Try.func32, Try.ntmps32
  go_wp2_with fail
  go_region_held3 (fun w' => w'.cell? ⟨w.heap.size, 0, none⟩ = some (.int .i64 1) ∧ w'.cell? ⟨w.heap.size, 1, none⟩ = some (.int .i64 l) ∧ w'.cell? ⟨w.heap.size, 2, none⟩ = some (.int .i64 v) ∧ w'.cell? ⟨w.heap.size, 3, none⟩ = some (.int .i64 b) ∧ Below w.heap.size w w') ((first | assumption | exact keep4 (by assumption) (by assumption) | exact ⟨by go_simp, by go_simp, by go_simp, by go_simp, below_drew1 ((Below.refl _ _).alloc (Nat.le_refl _) _)⟩))
    (first | (go_at_call 34; refine (within_calls _ _ _).mono ?_; rintro e w1 ⟨rfl, hb1⟩)
           | (go_at_call 38; refine (rules_calls _).mono ?_; rintro e w4 ⟨g, hg, hgc, rfl, hb4⟩)
           | (go_at_call 41; refine (plain_calls _ _ _ _ _).mono ?_; rintro e w5 ⟨rfl, hb5⟩))
  clear hi hm
  go_wp2
  go_ret
  exact ⟨rfl, of5 (by assumption)⟩

set_option maxHeartbeats 2000000 in
theorem check_1f (l v b : Int) (w : World) (hk : withinB 1 4 = true) (hl : withinB l 1048576 = true) (hv : withinB v 1048576 = true) (hb : (b == 0) = false) : Calls Try.prog 32 #[.agg #[.int .i64 1, .int .i64 l, .int .i64 v, .int .i64 b]] w fun e w' => e = .returned (.int .i64 1) ∧ Below w.heap.size w w' := by
  have hi := rule_at1
  have hm := rule_may1
  go_enter Try.func32, Try.ntmps32
  go_wp2_with fail
  go_region_held3 (fun w' => w'.cell? ⟨w.heap.size, 0, none⟩ = some (.int .i64 1) ∧ w'.cell? ⟨w.heap.size, 1, none⟩ = some (.int .i64 l) ∧ w'.cell? ⟨w.heap.size, 2, none⟩ = some (.int .i64 v) ∧ w'.cell? ⟨w.heap.size, 3, none⟩ = some (.int .i64 b) ∧ Below w.heap.size w w') ((first | assumption | exact keep4 (by assumption) (by assumption) | exact ⟨by go_simp, by go_simp, by go_simp, by go_simp, below_drew1 ((Below.refl _ _).alloc (Nat.le_refl _) _)⟩))
    (first | (go_at_call 34; refine (within_calls _ _ _).mono ?_; rintro e w1 ⟨rfl, hb1⟩)
           | (go_at_call 38; refine (rules_calls _).mono ?_; rintro e w4 ⟨g, hg, hgc, rfl, hb4⟩)
           | (go_at_call 41; refine (plain_calls _ _ _ _ _).mono ?_; rintro e w5 ⟨rfl, hb5⟩))
  clear hi hm
  go_wp2
  go_ret
  exact ⟨rfl, of5 (by assumption)⟩

set_option maxHeartbeats 2000000 in
theorem check_2t (l v b : Int) (w : World) (hk : withinB 2 4 = true) (hl : withinB l 1048576 = true) (hv : withinB v 1048576 = true) (hb : (b == 0) = true) : Calls Try.prog 32 #[.agg #[.int .i64 2, .int .i64 l, .int .i64 v, .int .i64 b]] w fun e w' => e = .returned (.int .i64 0) ∧ Below w.heap.size w w' := by
  have hi := rule_at2
  have hm := rule_may1
  go_enter Try.func32, Try.ntmps32
  go_wp2_with fail
  go_region_held3 (fun w' => w'.cell? ⟨w.heap.size, 0, none⟩ = some (.int .i64 2) ∧ w'.cell? ⟨w.heap.size, 1, none⟩ = some (.int .i64 l) ∧ w'.cell? ⟨w.heap.size, 2, none⟩ = some (.int .i64 v) ∧ w'.cell? ⟨w.heap.size, 3, none⟩ = some (.int .i64 b) ∧ Below w.heap.size w w') ((first | assumption | exact keep4 (by assumption) (by assumption) | exact ⟨by go_simp, by go_simp, by go_simp, by go_simp, below_drew1 ((Below.refl _ _).alloc (Nat.le_refl _) _)⟩))
    (first | (go_at_call 34; refine (within_calls _ _ _).mono ?_; rintro e w1 ⟨rfl, hb1⟩)
           | (go_at_call 38; refine (rules_calls _).mono ?_; rintro e w4 ⟨g, hg, hgc, rfl, hb4⟩)
           | (go_at_call 41; refine (plain_calls _ _ _ _ _).mono ?_; rintro e w5 ⟨rfl, hb5⟩))
  clear hi hm
  go_wp2
  go_ret
  exact ⟨rfl, of5 (by assumption)⟩

set_option maxHeartbeats 2000000 in
theorem check_2f (l v b : Int) (w : World) (hk : withinB 2 4 = true) (hl : withinB l 1048576 = true) (hv : withinB v 1048576 = true) (hb : (b == 0) = false) : Calls Try.prog 32 #[.agg #[.int .i64 2, .int .i64 l, .int .i64 v, .int .i64 b]] w fun e w' => e = .returned (.int .i64 1) ∧ Below w.heap.size w w' := by
  have hi := rule_at2
  have hm := rule_may1
  go_enter Try.func32, Try.ntmps32
  go_wp2_with fail
  go_region_held3 (fun w' => w'.cell? ⟨w.heap.size, 0, none⟩ = some (.int .i64 2) ∧ w'.cell? ⟨w.heap.size, 1, none⟩ = some (.int .i64 l) ∧ w'.cell? ⟨w.heap.size, 2, none⟩ = some (.int .i64 v) ∧ w'.cell? ⟨w.heap.size, 3, none⟩ = some (.int .i64 b) ∧ Below w.heap.size w w') ((first | assumption | exact keep4 (by assumption) (by assumption) | exact ⟨by go_simp, by go_simp, by go_simp, by go_simp, below_drew1 ((Below.refl _ _).alloc (Nat.le_refl _) _)⟩))
    (first | (go_at_call 34; refine (within_calls _ _ _).mono ?_; rintro e w1 ⟨rfl, hb1⟩)
           | (go_at_call 38; refine (rules_calls _).mono ?_; rintro e w4 ⟨g, hg, hgc, rfl, hb4⟩)
           | (go_at_call 41; refine (plain_calls _ _ _ _ _).mono ?_; rintro e w5 ⟨rfl, hb5⟩))
  clear hi hm
  go_wp2
  go_ret
  exact ⟨rfl, of5 (by assumption)⟩

set_option maxHeartbeats 2000000 in
theorem check_3t (l v b : Int) (w : World) (hk : withinB 3 4 = true) (hl : withinB l 1048576 = true) (hv : withinB v 1048576 = true) (hb : ringB v b = true) : Calls Try.prog 32 #[.agg #[.int .i64 3, .int .i64 l, .int .i64 v, .int .i64 b]] w fun e w' => e = .returned (.int .i64 0) ∧ Below w.heap.size w w' := by
  have hi := rule_at3
  have hm := rule_may3
  go_enter Try.func32, Try.ntmps32
  go_wp2_with fail
  go_region_held3 (fun w' => w'.cell? ⟨w.heap.size, 0, none⟩ = some (.int .i64 3) ∧ w'.cell? ⟨w.heap.size, 1, none⟩ = some (.int .i64 l) ∧ w'.cell? ⟨w.heap.size, 2, none⟩ = some (.int .i64 v) ∧ w'.cell? ⟨w.heap.size, 3, none⟩ = some (.int .i64 b) ∧ Below w.heap.size w w') ((first | assumption | exact keep4 (by assumption) (by assumption) | exact ⟨by go_simp, by go_simp, by go_simp, by go_simp, below_drew1 ((Below.refl _ _).alloc (Nat.le_refl _) _)⟩))
    (first | (go_at_call 34; refine (within_calls _ _ _).mono ?_; rintro e w1 ⟨rfl, hb1⟩)
           | (go_at_call 38; refine (rules_calls _).mono ?_; rintro e w4 ⟨g, hg, hgc, rfl, hb4⟩)
           | (go_at_call 42; refine (ringmay_calls _ _ _ _ _).mono ?_; rintro e w5 ⟨rfl, hb5⟩))
  clear hi hm
  go_wp2
  go_ret
  exact ⟨rfl, of5 (by assumption)⟩

set_option maxHeartbeats 2000000 in
theorem check_3f (l v b : Int) (w : World) (hk : withinB 3 4 = true) (hl : withinB l 1048576 = true) (hv : withinB v 1048576 = true) (hb : ringB v b = false) : Calls Try.prog 32 #[.agg #[.int .i64 3, .int .i64 l, .int .i64 v, .int .i64 b]] w fun e w' => e = .returned (.int .i64 1) ∧ Below w.heap.size w w' := by
  have hi := rule_at3
  have hm := rule_may3
  go_enter Try.func32, Try.ntmps32
  go_wp2_with fail
  go_region_held3 (fun w' => w'.cell? ⟨w.heap.size, 0, none⟩ = some (.int .i64 3) ∧ w'.cell? ⟨w.heap.size, 1, none⟩ = some (.int .i64 l) ∧ w'.cell? ⟨w.heap.size, 2, none⟩ = some (.int .i64 v) ∧ w'.cell? ⟨w.heap.size, 3, none⟩ = some (.int .i64 b) ∧ Below w.heap.size w w') ((first | assumption | exact keep4 (by assumption) (by assumption) | exact ⟨by go_simp, by go_simp, by go_simp, by go_simp, below_drew1 ((Below.refl _ _).alloc (Nat.le_refl _) _)⟩))
    (first | (go_at_call 34; refine (within_calls _ _ _).mono ?_; rintro e w1 ⟨rfl, hb1⟩)
           | (go_at_call 38; refine (rules_calls _).mono ?_; rintro e w4 ⟨g, hg, hgc, rfl, hb4⟩)
           | (go_at_call 42; refine (ringmay_calls _ _ _ _ _).mono ?_; rintro e w5 ⟨rfl, hb5⟩))
  clear hi hm
  go_wp2
  go_ret
  exact ⟨rfl, of5 (by assumption)⟩

set_option maxHeartbeats 2000000 in
theorem check_4t (l v b : Int) (w : World) (hk : withinB 4 4 = true) (hl : withinB l 1048576 = true) (hv : withinB v 1048576 = true) (hb : exactB b l = true) : Calls Try.prog 32 #[.agg #[.int .i64 4, .int .i64 l, .int .i64 v, .int .i64 b]] w fun e w' => e = .returned (.int .i64 0) ∧ Below w.heap.size w w' := by
  have hi := rule_at4
  have hm := rule_may4
  go_enter Try.func32, Try.ntmps32
  go_wp2_with fail
  go_region_held3 (fun w' => w'.cell? ⟨w.heap.size, 0, none⟩ = some (.int .i64 4) ∧ w'.cell? ⟨w.heap.size, 1, none⟩ = some (.int .i64 l) ∧ w'.cell? ⟨w.heap.size, 2, none⟩ = some (.int .i64 v) ∧ w'.cell? ⟨w.heap.size, 3, none⟩ = some (.int .i64 b) ∧ Below w.heap.size w w') ((first | assumption | exact keep4 (by assumption) (by assumption) | exact ⟨by go_simp, by go_simp, by go_simp, by go_simp, below_drew1 ((Below.refl _ _).alloc (Nat.le_refl _) _)⟩))
    (first | (go_at_call 34; refine (within_calls _ _ _).mono ?_; rintro e w1 ⟨rfl, hb1⟩)
           | (go_at_call 38; refine (rules_calls _).mono ?_; rintro e w4 ⟨g, hg, hgc, rfl, hb4⟩)
           | (go_at_call 44; refine (exactmay_calls _ _ _ _ _ _ (by assumption)).mono ?_; rintro e w5 ⟨rfl, hb5⟩))
  clear hi hm
  go_wp2
  go_ret
  exact ⟨rfl, of5 (by assumption)⟩

set_option maxHeartbeats 2000000 in
theorem check_4f (l v b : Int) (w : World) (hk : withinB 4 4 = true) (hl : withinB l 1048576 = true) (hv : withinB v 1048576 = true) (hb : exactB b l = false) : Calls Try.prog 32 #[.agg #[.int .i64 4, .int .i64 l, .int .i64 v, .int .i64 b]] w fun e w' => e = .returned (.int .i64 1) ∧ Below w.heap.size w w' := by
  have hi := rule_at4
  have hm := rule_may4
  go_enter Try.func32, Try.ntmps32
  go_wp2_with fail
  go_region_held3 (fun w' => w'.cell? ⟨w.heap.size, 0, none⟩ = some (.int .i64 4) ∧ w'.cell? ⟨w.heap.size, 1, none⟩ = some (.int .i64 l) ∧ w'.cell? ⟨w.heap.size, 2, none⟩ = some (.int .i64 v) ∧ w'.cell? ⟨w.heap.size, 3, none⟩ = some (.int .i64 b) ∧ Below w.heap.size w w') ((first | assumption | exact keep4 (by assumption) (by assumption) | exact ⟨by go_simp, by go_simp, by go_simp, by go_simp, below_drew1 ((Below.refl _ _).alloc (Nat.le_refl _) _)⟩))
    (first | (go_at_call 34; refine (within_calls _ _ _).mono ?_; rintro e w1 ⟨rfl, hb1⟩)
           | (go_at_call 38; refine (rules_calls _).mono ?_; rintro e w4 ⟨g, hg, hgc, rfl, hb4⟩)
           | (go_at_call 44; refine (exactmay_calls _ _ _ _ _ _ (by assumption)).mono ?_; rintro e w5 ⟨rfl, hb5⟩))
  clear hi hm
  go_wp2
  go_ret
  exact ⟨rfl, of5 (by assumption)⟩

/-- May a policy be (by kind, limit, window, buckets)? -/
def polOk (k l w b : Int) : Bool := withinB k 4 && withinB l 1048576 && withinB w 1048576 && (if k = 3 then ringB w b else if k = 4 then exactB b l else b == 0)
def policy_Check.f (a0_0 : Int) (a0_1 : Int) (a0_2 : Int) (a0_3 : Int) : Option (Int) := some (if polOk a0_0 a0_1 a0_2 a0_3 = true then 0 else 1)
theorem policy_Check.calls (a0_0 : Int) (a0_1 : Int) (a0_2 : Int) (a0_3 : Int) (r : Int) (w : World) (h : policy_Check.f a0_0 a0_1 a0_2 a0_3 = some r) :
  Calls Try.prog 32 #[.agg #[.int .i64 a0_0, .int .i64 a0_1, .int .i64 a0_2, .int .i64 a0_3]] w fun e w' => e = .returned (.int .i64 r) ∧ Below w.heap.size w w' := by
 obtain rfl := Option.some.inj h
 clear h
 cases hk : withinB a0_0 4
 ·simp only [polOk, hk, Bool.false_and, Bool.false_eq_true, if_false]; exact check_k _ _ _ _ _ hk
 cases hl : withinB a0_1 1048576
 ·simp only [polOk, hk, hl, Bool.true_and, Bool.false_and, Bool.false_eq_true, if_false]; exact check_l _ _ _ _ _ hk hl
 cases hv : withinB a0_2 1048576
 ·simp only [polOk, hk, hl, hv, Bool.true_and, Bool.false_and, Bool.false_eq_true, if_false]; exact check_v _ _ _ _ _ hk hl hv
 have h4 : a0_0 = 1 ∨ a0_0 = 2 ∨ a0_0 = 3 ∨ a0_0 = 4 := by
  unfold withinB at hk
  simp only [Bool.and_eq_true, decide_eq_true_eq] at hk
  omega
 rcases h4 with rfl | rfl | rfl | rfl
 ·cases hb : (a0_3 == 0)
  ·simp only [polOk, hk, hl, hv, hb, Bool.true_and, Int.reduceEq, Bool.false_eq_true, if_false]; exact check_1f _ _ _ _ hk hl hv hb
  ·simp only [polOk, hk, hl, hv, hb, Bool.true_and, Int.reduceEq, if_true, if_false]; exact check_1t _ _ _ _ hk hl hv hb
 ·cases hb : (a0_3 == 0)
  ·simp only [polOk, hk, hl, hv, hb, Bool.true_and, Int.reduceEq, Bool.false_eq_true, if_false]; exact check_2f _ _ _ _ hk hl hv hb
  ·simp only [polOk, hk, hl, hv, hb, Bool.true_and, Int.reduceEq, if_true, if_false]; exact check_2t _ _ _ _ hk hl hv hb
 ·cases hb : ringB a0_2 a0_3
  ·simp only [polOk, hk, hl, hv, hb, Bool.true_and, if_true, Bool.false_eq_true, if_false]; exact check_3f _ _ _ _ hk hl hv hb
  ·simp only [polOk, hk, hl, hv, hb, Bool.true_and, if_true]; exact check_3t _ _ _ _ hk hl hv hb
 ·cases hb : exactB a0_3 a0_1
  ·simp only [polOk, hk, hl, hv, hb, Bool.true_and, Int.reduceEq, if_true, Bool.false_eq_true, if_false]; exact check_4f _ _ _ _ hk hl hv hb
  ·simp only [polOk, hk, hl, hv, hb, Bool.true_and, Int.reduceEq, if_true, if_false]; exact check_4t _ _ _ _ hk hl hv hb

end Go.Proofs.Ytalcmlgkdkbbaaa.Q
