-- Laid by wip/tools/hprint.py, a program of this repo, over the kit's print; not a text of print.sh.
import Derived.Test.YtalcmlgkdkbbaaaQ0
namespace Go.Proofs.Ytalcmlgkdkbbaaa.Q
open Go.RowKit Go.Proofs.Ytalcmlgkdkbbaaa.Zip Go.Proofs.YtalcmlgkdkbbaaaW.PrintWords Go.Proofs.YtalcmlgkdkbbaaaW.PrintLast Go.Proofs.YtalcmlgkdkbbaaaW.PrintMore
attribute [local go_sem] max2_int min2_int max_two min_two max_three min_three max_four min_four   -- for this text's walks alone
set_option linter.unusedVariables false
set_option linter.unusedSimpArgs false

/-! ### sandglassref12_number: function 28 -/
def sandglassref12_number.f (a0_0 : Int) (a0_1 : Int) (a0_2 : Int) (a0_3 : Int) (a1 : Int) : Option (Int) := if a0_3 = 0 then (none) else (if (wrap64 (Int.tdiv a0_2 a0_3)) = 0 then (none) else (some (wrap64 (Int.tdiv a1 (wrap64 (Int.tdiv a0_2 a0_3))))))
set_option maxHeartbeats 8000000 in
set_option maxRecDepth 100000 in
theorem sandglassref12_number.calls (a0_0 : Int) (a0_1 : Int) (a0_2 : Int) (a0_3 : Int) (a1 : Int) (r : Int) (w : World) (h : sandglassref12_number.f a0_0 a0_1 a0_2 a0_3 a1 = some r) :
  Calls Try.prog 28 #[.agg #[.int .i64 a0_0, .int .i64 a0_1, .int .i64 a0_2, .int .i64 a0_3], .int .i64 a1] w fun e w' => e = .returned (.int .i64 r) ∧ Below w.heap.size w w' := by
 have hu23 := Try.underlying23
 have HB := Aside0.mk (Below.refl w.heap.size w)
 have H : (if a0_3 = 0 then (none) else (if (wrap64 (Int.tdiv a0_2 a0_3)) = 0 then (none) else (some (wrap64 (Int.tdiv a1 (wrap64 (Int.tdiv a0_2 a0_3))))))) = some r := h
 clear h
 by_cases c3 : a0_3 = 0
 ·rw [if_pos c3] at H
  exact absurd H (by simp)
 ·rw [if_neg c3] at H
  have c3b0 : (a0_3 == 0) = false := beq_eq_false_iff_ne.mpr c3
  have c3b1 : (a0_3 != 0) = true := bne_iff_ne.mpr c3
  by_cases c4 : (wrap64 (Int.tdiv a0_2 a0_3)) = 0
  ·rw [if_pos c4] at H
   exact absurd H (by simp)
  ·rw [if_neg c4] at H
   have c4b0 : ((wrap64 (Int.tdiv a0_2 a0_3)) == 0) = false := beq_eq_false_iff_ne.mpr c4
   have c4b1 : ((wrap64 (Int.tdiv a0_2 a0_3)) != 0) = true := bne_iff_ne.mpr c4
   obtain rfl := Option.some.inj H
   go_enter Try.func28, Try.ntmps28
   go_wp2_with (first | ((with_reducible refine gate_dst (N := 2) rfl ?_); refine box_event ?hg (N := 2) ?hd (cs := #[.int .i64 a0_0, .int .i64 a0_1, .int .i64 a0_2, .int .i64 a0_3]) (t := 23) ?hr ?_; (case hd => rfl); (case hg => rfl); (case hr => first | (go_simp; done) | (go_simp; rfl)); intro gb270 hg w5 hbox hb; have BK270 := Aside0.mk (hbox); have GW270 := Aside0.mk ((by rw [hg]; exact (below_size (bl HB)) : w.heap.size ≤ gb270)); have GE270 := Aside0.mk ((by rw [hg]; exact (below_size (bl HB)) : w.heap.size ≤ gb270)); replace HB := Aside0.mk (below_step (bl HB) hb); clear hb hbox hg; obtain ⟨hcz6_0, hcz6_1, hcz6_2, hcz6_3⟩ := ce4 BK270; obtain ⟨hfz6_0, hfz6_1, hfz6_2, hfz6_3⟩ := fr4 BK270))
   go_ret
   exact ⟨by first | (with_reducible rfl) | rfl | (simp [errW_none, errW_some] <;> rfl) | (simp [*, errW_none, errW_some] <;> rfl), bl HB⟩

end Go.Proofs.Ytalcmlgkdkbbaaa.Q
