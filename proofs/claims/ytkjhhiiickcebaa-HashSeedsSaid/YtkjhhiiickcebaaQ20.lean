-- Laid by wip/tools/hprint.py, a program of this repo, over the kit's print; not a text of print.sh.
import Derived.Test.YtkjhhiiickcebaaQ0
import Derived.Test.YtkjhhiiickcebaaQ5
import Derived.Test.YtkjhhiiickcebaaQ7
import Derived.Test.YtkjhhiiickcebaaQ13
namespace Go.Proofs.Ytkjhhiiickcebaa.Q
open Go.RowKit Go.Proofs.Ytkjhhiiickcebaa.Zip Go.Proofs.YtkjhhiiickcebaaW.PrintWords Go.Proofs.YtkjhhiiickcebaaW.PrintLast Go.Proofs.YtkjhhiiickcebaaW.PrintMore
attribute [local go_sem] max2_int min2_int max_two min_two max_three min_three max_four min_four   -- for this text's walks alone
set_option linter.unusedVariables false
set_option linter.unusedSimpArgs false

/-! ### sandglasslaw03_HashSeeds: function 7 -/
def sandglasslaw03_HashSeeds.f (k : Nat) (a0 : ByteArray) (a1_0 : Int) (a1_1 : Int) (a2_0 : Int) (a2_1 : Int) : Option (Bool) := if (a0.size : Int) > 100 then ((sandglasslaw03_live.f k).bind fun t161 => (some t161)) else ((hash_Sum.f a1_0 a0).bind fun t162 => ((hash_Sum.f a1_1 a0).bind fun t163 => ((hash_Name.f a1_0 a2_0 a0).bind fun t164 => ((hash_Name.f a1_0 a2_1 a0).bind fun t165 => (if ((t162 == t163) == (a1_0 == a1_1)) = true then (if ((t164 == t165) == (a2_0 == a2_1)) = true then ((sandglasslaw03_live.f k).bind fun t166 => (some t166)) else (none)) else (none))))))
theorem sandglasslaw03_HashSeeds.mono : ∀ a0 a1 a2 a3 a4 k, LeO (sandglasslaw03_HashSeeds.f k a0 a1 a2 a3 a4) (sandglasslaw03_HashSeeds.f (k + 1) a0 a1 a2 a3 a4) := by
  intro a0 a1 a2 a3 a4 k
  unfold sandglasslaw03_HashSeeds.f
  repeat' first
      | (with_reducible exact sandglasslaw03_live.mono _)
      | (with_reducible exact LeO.refl _)
      | (with_reducible exact LeO.none _)
      | (with_reducible refine LeO.ite ?_ ?_)
      | (with_reducible refine LeO.bind ?_ (fun _ => ?_))
      | exact sandglasslaw03_live.mono _
      | exact LeO.none _
      | refine LeO.ite ?_ ?_
      | refine LeO.bind ?_ (fun _ => ?_)
set_option maxHeartbeats 8000000 in
set_option maxRecDepth 100000 in
theorem sandglasslaw03_HashSeeds.calls (k : Nat) (a0 : ByteArray) (a1_0 : Int) (a1_1 : Int) (a2_0 : Int) (a2_1 : Int) (r : Bool) (w : World) (h : sandglasslaw03_HashSeeds.f k a0 a1_0 a1_1 a2_0 a2_1 = some r) :
    Calls Try.prog 7 #[.string a0, .agg #[.int .u64 a1_0, .int .u64 a1_1], .agg #[.int .i64 a2_0, .int .i64 a2_1]] w fun e w' => e = .returned (.bool r) ∧ Below w.heap.size w w' := by
  have hu36 := Try.underlying36
  have hu33 := Try.underlying33
  have HB := Aside0.mk (Below.refl w.heap.size w)
  have H : (if (a0.size : Int) > 100 then ((sandglasslaw03_live.f k).bind fun t161 => (some t161)) else ((hash_Sum.f a1_0 a0).bind fun t162 => ((hash_Sum.f a1_1 a0).bind fun t163 => ((hash_Name.f a1_0 a2_0 a0).bind fun t164 => ((hash_Name.f a1_0 a2_1 a0).bind fun t165 => (if ((t162 == t163) == (a1_0 == a1_1)) = true then (if ((t164 == t165) == (a2_0 == a2_1)) = true then ((sandglasslaw03_live.f k).bind fun t166 => (some t166)) else (none)) else (none))))))) = some r := h
  clear h
  by_cases c4 : (a0.size : Int) > 100
  · rw [if_pos c4] at H
    have c4b0 : decide (100 < (a0.size : Int)) = true := decide_eq_true c4
    have c4b1 : decide (100 < a0.size) = true := decide_eq_true (by omega)
    clear c4
    replace H := Option.bind_eq_some_iff.mp H
    obtain ⟨t161, A50, H⟩ := H
    have A5 := Aside0.mk A50
    clear A50
    obtain rfl := Option.some.inj H
    go_enter Try.func7, Try.ntmps7
    go_wp2_with (first | ((with_reducible refine gate_dst (N := 4) rfl ?_); refine box_event ?hg (N := 4) ?hd (cs := #[.int .u64 a1_0, .int .u64 a1_1]) (t := 36) ?hr ?_; (case hd => rfl); (case hg => rfl); (case hr => first | (go_simp; done) | (go_simp; rfl)); intro gb159 hg w6 hbox hb; have BK159 := Aside0.mk (hbox); have GW159 := Aside0.mk ((by rw [hg]; exact (below_size (bl HB)) : w.heap.size ≤ gb159)); have GE159 := Aside0.mk ((by rw [hg]; exact (below_size (bl HB)) : w.heap.size ≤ gb159)); replace HB := Aside0.mk (below_step (bl HB) hb); clear hb hbox hg) | ((with_reducible refine gate_dst (N := 5) rfl ?_); refine box_event ?hg (N := 5) ?hd (cs := #[.int .i64 a2_0, .int .i64 a2_1]) (t := 33) ?hr ?_; (case hd => rfl); (case hg => rfl); (case hr => first | (go_simp; done) | (go_simp; rfl)); intro gb160 hg w7 hbox hb; have BK160 := Aside0.mk (hbox); have GW160 := Aside0.mk ((by rw [hg]; exact (below_size (bl HB)) : w.heap.size ≤ gb160)); have GE160 := Aside0.mk ((by rw [hg]; exact (below_size (bl HB)) : w.heap.size ≤ gb160)); have NB159_160 := nb BK159 hg; have NB160_159 := bn BK159 hg; replace BK159 := Aside0.mk (blk_below (bo BK159) hb); replace HB := Aside0.mk (below_step (bl HB) hb); clear hb hbox hg) | ((with_reducible refine gate_callee (f := 11) rfl ?_); refine goesL_ (some 14) rfl rfl Try.func11 (by kernel_rfl) rfl #[] rfl (by (try simp only [List.map_toArray, List.map_cons, List.map_nil]); first | done | rfl | (simp only [List.length_drop, List.length_take]; rfl)) ?_; (with_reducible refine (sandglasslaw03_live.calls k  t161 _ A5.out).mono ?_); rintro e w8 ⟨rfl, hb⟩; refine ⟨_, rfl, ?_⟩; replace BK159 := Aside0.mk (blk_below (bo BK159) hb); replace BK160 := Aside0.mk (blk_below (bo BK160) hb); replace HB := Aside0.mk (below_step (bl HB) hb); (try clear hb); (try clear hb2); (try clear hk); (try clear hi)))
    go_ret
    exact ⟨by first | (with_reducible rfl) | rfl | (simp [errW_none, errW_some] <;> rfl) | (simp [*, errW_none, errW_some] <;> rfl), bl HB⟩
  · rw [if_neg c4] at H
    have c4b0 : decide (100 < (a0.size : Int)) = false := decide_eq_false c4
    have c4b1 : decide (100 < a0.size) = false := decide_eq_false (by omega)
    clear c4
    replace H := Option.bind_eq_some_iff.mp H
    obtain ⟨t162, A90, H⟩ := H
    have A9 := Aside0.mk A90
    clear A90
    replace H := Option.bind_eq_some_iff.mp H
    obtain ⟨t163, A100, H⟩ := H
    have A10 := Aside0.mk A100
    clear A100
    replace H := Option.bind_eq_some_iff.mp H
    obtain ⟨t164, A110, H⟩ := H
    have A11 := Aside0.mk A110
    clear A110
    replace H := Option.bind_eq_some_iff.mp H
    obtain ⟨t165, A120, H⟩ := H
    have A12 := Aside0.mk A120
    clear A120
    by_cases c13 : ((t162 == t163) == (a1_0 == a1_1)) = true
    · rw [if_pos c13] at H
      have c13b0 : ((t162 == t163) == (a1_0 == a1_1)) = true := c13
      (try (have c13b1 : decide ((t162 == t163) = (a1_0 == a1_1)) = true := by simpa using c13))
      (try (have c13b2 : ((t162 == t163) == (a1_0 == a1_1)) = true := by simpa using c13))
      clear c13
      by_cases c14 : ((t164 == t165) == (a2_0 == a2_1)) = true
      · rw [if_pos c14] at H
        have c14b0 : ((t164 == t165) == (a2_0 == a2_1)) = true := c14
        (try (have c14b1 : decide ((t164 == t165) = (a2_0 == a2_1)) = true := by simpa using c14))
        (try (have c14b2 : ((t164 == t165) == (a2_0 == a2_1)) = true := by simpa using c14))
        clear c14
        replace H := Option.bind_eq_some_iff.mp H
        obtain ⟨t166, A150, H⟩ := H
        have A15 := Aside0.mk A150
        clear A150
        obtain rfl := Option.some.inj H
        go_enter Try.func7, Try.ntmps7
        go_wp2_with (first | ((with_reducible refine gate_dst (N := 4) rfl ?_); refine box_event ?hg (N := 4) ?hd (cs := #[.int .u64 a1_0, .int .u64 a1_1]) (t := 36) ?hr ?_; (case hd => rfl); (case hg => rfl); (case hr => first | (go_simp; done) | (go_simp; rfl)); intro gb159 hg w16 hbox hb; have BK159 := Aside0.mk (hbox); have GW159 := Aside0.mk ((by rw [hg]; exact (below_size (bl HB)) : w.heap.size ≤ gb159)); have GE159 := Aside0.mk ((by rw [hg]; exact (below_size (bl HB)) : w.heap.size ≤ gb159)); replace HB := Aside0.mk (below_step (bl HB) hb); clear hb hbox hg) | ((with_reducible refine gate_dst (N := 5) rfl ?_); refine box_event ?hg (N := 5) ?hd (cs := #[.int .i64 a2_0, .int .i64 a2_1]) (t := 33) ?hr ?_; (case hd => rfl); (case hg => rfl); (case hr => first | (go_simp; done) | (go_simp; rfl)); intro gb160 hg w17 hbox hb; have BK160 := Aside0.mk (hbox); have GW160 := Aside0.mk ((by rw [hg]; exact (below_size (bl HB)) : w.heap.size ≤ gb160)); have GE160 := Aside0.mk ((by rw [hg]; exact (below_size (bl HB)) : w.heap.size ≤ gb160)); have NB159_160 := nb BK159 hg; have NB160_159 := bn BK159 hg; replace BK159 := Aside0.mk (blk_below (bo BK159) hb); replace HB := Aside0.mk (below_step (bl HB) hb); clear hb hbox hg; have hnb18 := NB159_160.out; have hnc18 := NB160_159.out; obtain ⟨hcz19_0, hcz19_1⟩ := ce2 BK159; obtain ⟨hfz19_0, hfz19_1⟩ := fr2 BK159) | ((with_reducible refine gate_callee (f := 12) rfl ?_); refine goesL_ (some 18) rfl rfl Try.func12 (by kernel_rfl) rfl #[.int .u64 a1_0, .string a0] rfl (by (try simp only [List.map_toArray, List.map_cons, List.map_nil]); first | done | rfl | (simp only [List.length_drop, List.length_take]; rfl)) ?_; (with_reducible refine (hash_Sum.calls a1_0 a0 t162 _ A9.out).mono ?_); rintro e w20 ⟨rfl, hb⟩; refine ⟨_, rfl, ?_⟩; replace BK159 := Aside0.mk (blk_below (bo BK159) hb); replace BK160 := Aside0.mk (blk_below (bo BK160) hb); replace HB := Aside0.mk (below_step (bl HB) hb); (try clear hb); (try clear hb2); (try clear hk); (try clear hi); obtain ⟨hcz21_0, hcz21_1⟩ := ce2 BK159; obtain ⟨hfz21_0, hfz21_1⟩ := fr2 BK159) | ((with_reducible refine gate_callee (f := 12) rfl ?_); refine goesL_ (some 22) rfl rfl Try.func12 (by kernel_rfl) rfl #[.int .u64 a1_1, .string a0] rfl (by (try simp only [List.map_toArray, List.map_cons, List.map_nil]); first | done | rfl | (simp only [List.length_drop, List.length_take]; rfl)) ?_; (with_reducible refine (hash_Sum.calls a1_1 a0 t163 _ A10.out).mono ?_); rintro e w22 ⟨rfl, hb⟩; refine ⟨_, rfl, ?_⟩; replace BK159 := Aside0.mk (blk_below (bo BK159) hb); replace BK160 := Aside0.mk (blk_below (bo BK160) hb); replace HB := Aside0.mk (below_step (bl HB) hb); (try clear hb); (try clear hb2); (try clear hk); (try clear hi); obtain ⟨hcz23_0, hcz23_1⟩ := ce2 BK159; obtain ⟨hfz23_0, hfz23_1⟩ := fr2 BK159; obtain ⟨hcz24_0, hcz24_1⟩ := ce2 BK160; obtain ⟨hfz24_0, hfz24_1⟩ := fr2 BK160) | ((with_reducible refine gate_callee (f := 15) rfl ?_); refine goesL_ (some 28) rfl rfl Try.func15 (by kernel_rfl) rfl #[.int .u64 a1_0, .int .i64 a2_0, .string a0] rfl (by (try simp only [List.map_toArray, List.map_cons, List.map_nil]); first | done | rfl | (simp only [List.length_drop, List.length_take]; rfl)) ?_; (with_reducible refine (hash_Name.calls a1_0 a2_0 a0 t164 _ A11.out).mono ?_); rintro e w25 ⟨rfl, hb⟩; refine ⟨_, rfl, ?_⟩; replace BK159 := Aside0.mk (blk_below (bo BK159) hb); replace BK160 := Aside0.mk (blk_below (bo BK160) hb); replace HB := Aside0.mk (below_step (bl HB) hb); (try clear hb); (try clear hb2); (try clear hk); (try clear hi); obtain ⟨hcz26_0, hcz26_1⟩ := ce2 BK159; obtain ⟨hfz26_0, hfz26_1⟩ := fr2 BK159; obtain ⟨hcz27_0, hcz27_1⟩ := ce2 BK160; obtain ⟨hfz27_0, hfz27_1⟩ := fr2 BK160) | ((with_reducible refine gate_callee (f := 15) rfl ?_); refine goesL_ (some 34) rfl rfl Try.func15 (by kernel_rfl) rfl #[.int .u64 a1_0, .int .i64 a2_1, .string a0] rfl (by (try simp only [List.map_toArray, List.map_cons, List.map_nil]); first | done | rfl | (simp only [List.length_drop, List.length_take]; rfl)) ?_; (with_reducible refine (hash_Name.calls a1_0 a2_1 a0 t165 _ A12.out).mono ?_); rintro e w28 ⟨rfl, hb⟩; refine ⟨_, rfl, ?_⟩; replace BK159 := Aside0.mk (blk_below (bo BK159) hb); replace BK160 := Aside0.mk (blk_below (bo BK160) hb); replace HB := Aside0.mk (below_step (bl HB) hb); (try clear hb); (try clear hb2); (try clear hk); (try clear hi); obtain ⟨hcz29_0, hcz29_1⟩ := ce2 BK159; obtain ⟨hfz29_0, hfz29_1⟩ := fr2 BK159; obtain ⟨hcz30_0, hcz30_1⟩ := ce2 BK160; obtain ⟨hfz30_0, hfz30_1⟩ := fr2 BK160) | (go_at_call 11; (with_reducible refine (sandglasslaw03_live.calls k  t166 _ A15.out).mono ?_); rintro e w31 ⟨rfl, hb⟩; replace BK159 := Aside0.mk (blk_below (bo BK159) hb); replace BK160 := Aside0.mk (blk_below (bo BK160) hb); replace HB := Aside0.mk (below_step (bl HB) hb); (try clear hb); (try clear hb2); (try clear hk); (try clear hi)))
        go_ret
        exact ⟨by first | (with_reducible rfl) | rfl | (simp [errW_none, errW_some] <;> rfl) | (simp [*, errW_none, errW_some] <;> rfl), bl HB⟩
      · rw [if_neg c14] at H
        exact absurd H (by simp)
    · rw [if_neg c13] at H
      exact absurd H (by simp)

end Go.Proofs.Ytkjhhiiickcebaa.Q
