-- Laid by wip/tools/hprint.py, a program of this repo, over the kit's print; not a text of print.sh.
import Derived.Test.YtkjhhiiickcebaaQ0
import Derived.Test.YtkjhhiiickcebaaQ5
import Derived.Test.YtkjhhiiickcebaaQ7
namespace Go.Proofs.Ytkjhhiiickcebaa.Q
open Go.RowKit Go.Proofs.Ytkjhhiiickcebaa.Zip Go.Proofs.YtkjhhiiickcebaaW.PrintWords Go.Proofs.YtkjhhiiickcebaaW.PrintLast Go.Proofs.YtkjhhiiickcebaaW.PrintMore
attribute [local go_sem] max2_int min2_int max_two min_two max_three min_three max_four min_four   -- for this text's walks alone
set_option linter.unusedVariables false
set_option linter.unusedSimpArgs false

/-! ### sandglasslaw03_HashLast: function 4 -/
def sandglasslaw03_HashLast.f (k : Nat) (a0 : Int) (a1 : ByteArray) (a2_0 : Int) (a2_1 : Int) : Option (Bool) := if (a1.size : Int) > 100 then ((sandglasslaw03_live.f k).bind fun t117 => (some t117)) else ((some (([a2_0] : List Int) : List Int)).bind fun y118 => (if a1.size + (strOfNums y118).size ≤ 9223372036854775807 then ((hash_Sum.f a0 (a1 ++ (strOfNums y118))).bind fun t121 => ((some (([a2_1] : List Int) : List Int)).bind fun y122 => (if a1.size + (strOfNums y122).size ≤ 9223372036854775807 then ((hash_Sum.f a0 (a1 ++ (strOfNums y122))).bind fun t125 => (if ((t121 == t125) == (a2_0 == a2_1)) = true then ((sandglasslaw03_live.f k).bind fun t126 => (some t126)) else (none))) else (none)))) else (none)))
theorem sandglasslaw03_HashLast.mono : ∀ a0 a1 a2 a3 k, LeO (sandglasslaw03_HashLast.f k a0 a1 a2 a3) (sandglasslaw03_HashLast.f (k + 1) a0 a1 a2 a3) := by
  intro a0 a1 a2 a3 k
  unfold sandglasslaw03_HashLast.f
  repeat' first
      | (with_reducible exact sandglasslaw03_live.mono _)
      | (with_reducible exact LeO.refl _)
      | (with_reducible exact LeO.none _)
      | (with_reducible refine LeO.ite ?_ ?_)
      | (with_reducible refine LeO.bind ?_ (fun _ => ?_))
      | exact sandglasslaw03_live.mono _
      | exact LeO.none _
      | refine LeO.ite ?_ ?_
      | refine LeO.bind ?_ (fun _ => ?_)
set_option maxHeartbeats 8000000 in
set_option maxRecDepth 100000 in
theorem sandglasslaw03_HashLast.calls (k : Nat) (a0 : Int) (a1 : ByteArray) (a2_0 : Int) (a2_1 : Int) (r : Bool) (w : World) (h : sandglasslaw03_HashLast.f k a0 a1 a2_0 a2_1 = some r) :
    Calls Try.prog 4 #[.int .u64 a0, .string a1, .agg #[.int .u8 a2_0, .int .u8 a2_1]] w fun e w' => e = .returned (.bool r) ∧ Below w.heap.size w w' := by
  have hu26 := Try.underlying26
  have HB := Aside0.mk (Below.refl w.heap.size w)
  have H : (if (a1.size : Int) > 100 then ((sandglasslaw03_live.f k).bind fun t117 => (some t117)) else ((some (([a2_0] : List Int) : List Int)).bind fun y118 => (if a1.size + (strOfNums y118).size ≤ 9223372036854775807 then ((hash_Sum.f a0 (a1 ++ (strOfNums y118))).bind fun t121 => ((some (([a2_1] : List Int) : List Int)).bind fun y122 => (if a1.size + (strOfNums y122).size ≤ 9223372036854775807 then ((hash_Sum.f a0 (a1 ++ (strOfNums y122))).bind fun t125 => (if ((t121 == t125) == (a2_0 == a2_1)) = true then ((sandglasslaw03_live.f k).bind fun t126 => (some t126)) else (none))) else (none)))) else (none)))) = some r := h
  clear h
  by_cases c4 : (a1.size : Int) > 100
  · rw [if_pos c4] at H
    have c4b0 : decide (100 < (a1.size : Int)) = true := decide_eq_true c4
    have c4b1 : decide (100 < a1.size) = true := decide_eq_true (by omega)
    clear c4
    replace H := Option.bind_eq_some_iff.mp H
    obtain ⟨t117, A50, H⟩ := H
    have A5 := Aside0.mk A50
    clear A50
    obtain rfl := Option.some.inj H
    go_enter Try.func4, Try.ntmps4
    go_wp2_with (first | ((with_reducible refine gate_dst (N := 5) rfl ?_); refine box_event ?hg (N := 5) ?hd (cs := #[.int .u8 a2_0, .int .u8 a2_1]) (t := 26) ?hr ?_; (case hd => rfl); (case hg => rfl); (case hr => first | (go_simp; done) | (go_simp; rfl)); intro gb116 hg w6 hbox hb; have BK116 := Aside0.mk (hbox); have GW116 := Aside0.mk ((by rw [hg]; exact (below_size (bl HB)) : w.heap.size ≤ gb116)); have GE116 := Aside0.mk ((by rw [hg]; exact (below_size (bl HB)) : w.heap.size ≤ gb116)); replace HB := Aside0.mk (below_step (bl HB) hb); clear hb hbox hg) | ((with_reducible refine gate_callee (f := 11) rfl ?_); refine goesL_ (some 12) rfl rfl Try.func11 (by kernel_rfl) rfl #[] rfl (by (try simp only [List.map_toArray, List.map_cons, List.map_nil]); first | done | rfl | (simp only [List.length_drop, List.length_take]; rfl)) ?_; (with_reducible refine (sandglasslaw03_live.calls k  t117 _ A5.out).mono ?_); rintro e w7 ⟨rfl, hb⟩; refine ⟨_, rfl, ?_⟩; replace BK116 := Aside0.mk (blk_below (bo BK116) hb); replace HB := Aside0.mk (below_step (bl HB) hb); (try clear hb); (try clear hb2); (try clear hk); (try clear hi)))
    go_ret
    exact ⟨by first | (with_reducible rfl) | rfl | (simp [errW_none, errW_some] <;> rfl) | (simp [*, errW_none, errW_some] <;> rfl), bl HB⟩
  · rw [if_neg c4] at H
    have c4b0 : decide (100 < (a1.size : Int)) = false := decide_eq_false c4
    have c4b1 : decide (100 < a1.size) = false := decide_eq_false (by omega)
    clear c4
    obtain ⟨y118, hy118⟩ : ∃ y_ : List Int, y_ = (([a2_0] : List Int)) := ⟨_, rfl⟩
    replace H : (if a1.size + (strOfNums y118).size ≤ 9223372036854775807 then ((hash_Sum.f a0 (a1 ++ (strOfNums y118))).bind fun t121 => ((some (([a2_1] : List Int) : List Int)).bind fun y122 => (if a1.size + (strOfNums y122).size ≤ 9223372036854775807 then ((hash_Sum.f a0 (a1 ++ (strOfNums y122))).bind fun t125 => (if ((t121 == t125) == (a2_0 == a2_1)) = true then ((sandglasslaw03_live.f k).bind fun t126 => (some t126)) else (none))) else (none)))) else (none)) = some r := by first | (rw [hy118]; with_reducible exact H) | (have H2_ := (Option.bind_some _ _).symm.trans H; rw [hy118]; with_reducible exact H2_) | (have H2_ := (Option.bind_some _ _).symm.trans H; with_reducible exact H2_) | with_reducible exact H | (rw [hy118]; exact H) | exact H
    have Ny118 := Aside0.mk hy118
    clear hy118
    by_cases c8 : a1.size + (strOfNums y118).size ≤ 9223372036854775807
    · rw [if_pos c8] at H
      have c8b0 := eq_true c8
      have c8b1 : decide (a1.size + (strOfNums y118).size ≤ 9223372036854775807) = true := decide_eq_true c8
      try have c8b2 : (9223372036854775807 < a1.size + (strOfNums y118).size) = False := eq_false (Nat.not_lt.2 c8)
      replace H := Option.bind_eq_some_iff.mp H
      obtain ⟨t121, A90, H⟩ := H
      have A9 := Aside0.mk A90
      clear A90
      obtain ⟨y122, hy122⟩ : ∃ y_ : List Int, y_ = (([a2_1] : List Int)) := ⟨_, rfl⟩
      replace H : (if a1.size + (strOfNums y122).size ≤ 9223372036854775807 then ((hash_Sum.f a0 (a1 ++ (strOfNums y122))).bind fun t125 => (if ((t121 == t125) == (a2_0 == a2_1)) = true then ((sandglasslaw03_live.f k).bind fun t126 => (some t126)) else (none))) else (none)) = some r := by first | (rw [hy122]; with_reducible exact H) | (have H2_ := (Option.bind_some _ _).symm.trans H; rw [hy122]; with_reducible exact H2_) | (have H2_ := (Option.bind_some _ _).symm.trans H; with_reducible exact H2_) | with_reducible exact H | (rw [hy122]; exact H) | exact H
      have Ny122 := Aside0.mk hy122
      clear hy122
      by_cases c10 : a1.size + (strOfNums y122).size ≤ 9223372036854775807
      · rw [if_pos c10] at H
        have c10b0 := eq_true c10
        have c10b1 : decide (a1.size + (strOfNums y122).size ≤ 9223372036854775807) = true := decide_eq_true c10
        try have c10b2 : (9223372036854775807 < a1.size + (strOfNums y122).size) = False := eq_false (Nat.not_lt.2 c10)
        replace H := Option.bind_eq_some_iff.mp H
        obtain ⟨t125, A110, H⟩ := H
        have A11 := Aside0.mk A110
        clear A110
        by_cases c12 : ((t121 == t125) == (a2_0 == a2_1)) = true
        · rw [if_pos c12] at H
          have c12b0 : ((t121 == t125) == (a2_0 == a2_1)) = true := c12
          (try (have c12b1 : decide ((t121 == t125) = (a2_0 == a2_1)) = true := by simpa using c12))
          (try (have c12b2 : ((t121 == t125) == (a2_0 == a2_1)) = true := by simpa using c12))
          clear c12
          replace H := Option.bind_eq_some_iff.mp H
          obtain ⟨t126, A130, H⟩ := H
          have A13 := Aside0.mk A130
          clear A130
          obtain rfl := Option.some.inj H
          go_enter Try.func4, Try.ntmps4
          go_wp2_with (first | ((with_reducible refine gate_dst (N := 5) rfl ?_); refine box_event ?hg (N := 5) ?hd (cs := #[.int .u8 a2_0, .int .u8 a2_1]) (t := 26) ?hr ?_; (case hd => rfl); (case hg => rfl); (case hr => first | (go_simp; done) | (go_simp; rfl)); intro gb116 hg w14 hbox hb; have BK116 := Aside0.mk (hbox); have GW116 := Aside0.mk ((by rw [hg]; exact (below_size (bl HB)) : w.heap.size ≤ gb116)); have GE116 := Aside0.mk ((by rw [hg]; exact (below_size (bl HB)) : w.heap.size ≤ gb116)); replace HB := Aside0.mk (below_step (bl HB) hb); clear hb hbox hg; obtain ⟨hcz15_0, hcz15_1⟩ := ce2 BK116; obtain ⟨hfz15_0, hfz15_1⟩ := fr2 BK116) | ((with_reducible refine gate_dst (N := 17) rfl ?_); refine Kd.R_lit (Kd.int .u8) _ 5 ?hg (N := 17) ?hd (xs := ([a2_0] : List Int)) (inner := [.int .u8 a2_0]) (ok := fun _ => True) (okp := fun _ => True) ?hr ?hp (fun _ hk => hk) trivial (Below.refl _ _) (Nat.le_refl _) (by simp) ?_; (case hd => rfl); (case hg => rfl); (case hr => first | (go_simp; done) | (go_simp; rfl)); (case hp => exact (Reps.one (show Kd.M (Kd.int .u8) _ _ _ a2_0 [.int .u8 a2_0] from rfl) (Reps.none _ _))); intro v119 w16 ho17 hb hg_ hnew_; clear hg_ hnew_; (first | rw [← Ny118.out] at ho17 | (simp only [Int.reduceToNat] at ho17; rw [← Ny118.out] at ho17)); have HO120 := Aside0.mk (Kd.R_lower ho17 (below_size (bl HB))); replace BK116 := Aside0.mk (blk_below (bo BK116) hb); replace HB := Aside0.mk (below_step (bl HB) hb); clear hb ho17; have hcv18 := own_string (P := Try.prog) Try.underlying28 Try.underlying5 Try.underlying9 (Kd.own_of_R HO120.out)) | ((with_reducible refine gate_callee (f := 12) rfl ?_); refine goesL_ (some 20) rfl rfl Try.func12 (by kernel_rfl) rfl #[.int .u64 a0, .string (a1 ++ (strOfNums y118))] rfl (by (try simp only [List.map_toArray, List.map_cons, List.map_nil]); first | done | rfl | (simp only [List.length_drop, List.length_take]; rfl)) ?_; (with_reducible refine (hash_Sum.calls a0 (a1 ++ (strOfNums y118)) t121 _ A9.out).mono ?_); rintro e w19 ⟨rfl, hb⟩; refine ⟨_, rfl, ?_⟩; replace HO120 := Aside0.mk (Kd.R_below (by (with_reducible repeat (first | apply Kd.R_alloc | apply Kd.R_drewN | apply Kd.R_drew)); exact HO120.out) hb); replace BK116 := Aside0.mk (blk_below (bo BK116) hb); replace HB := Aside0.mk (below_step (bl HB) hb); (try clear hb); (try clear hb2); (try clear hk); (try clear hi); obtain ⟨hcz20_0, hcz20_1⟩ := ce2 BK116; obtain ⟨hfz20_0, hfz20_1⟩ := fr2 BK116) | ((with_reducible refine gate_dst (N := 25) rfl ?_); refine Kd.R_lit (Kd.int .u8) _ 5 ?hg (N := 25) ?hd (xs := ([a2_1] : List Int)) (inner := [.int .u8 a2_1]) (ok := fun _ => True) (okp := fun _ => True) ?hr ?hp (fun _ hk => hk) trivial (Below.refl _ _) (Nat.le_refl _) (by simp) ?_; (case hd => rfl); (case hg => rfl); (case hr => first | (go_simp; done) | (go_simp; rfl)); (case hp => exact (Reps.one (show Kd.M (Kd.int .u8) _ _ _ a2_1 [.int .u8 a2_1] from rfl) (Reps.none _ _))); intro v123 w21 ho22 hb hg_ hnew_; clear hg_ hnew_; (first | rw [← Ny122.out] at ho22 | (simp only [Int.reduceToNat] at ho22; rw [← Ny122.out] at ho22)); have HO124 := Aside0.mk (Kd.R_lower (Kd.R_new' ho22 (Kd.R_lt (by (with_reducible repeat (first | apply Kd.R_alloc | apply Kd.R_drewN | apply Kd.R_drew)); exact HO120.out))) (below_size (bl HB))); replace HO120 := Aside0.mk (Kd.R_elder' (by (with_reducible repeat (first | apply Kd.R_alloc | apply Kd.R_drewN | apply Kd.R_drew)); exact HO120.out) (Kd.R_base ho22) hb); replace BK116 := Aside0.mk (blk_below (bo BK116) hb); replace HB := Aside0.mk (below_step (bl HB) hb); clear hb ho22; have hcv23 := own_string (P := Try.prog) Try.underlying28 Try.underlying5 Try.underlying9 (Kd.own_of_R HO124.out)) | ((with_reducible refine gate_callee (f := 12) rfl ?_); refine goesL_ (some 28) rfl rfl Try.func12 (by kernel_rfl) rfl #[.int .u64 a0, .string (a1 ++ (strOfNums y122))] rfl (by (try simp only [List.map_toArray, List.map_cons, List.map_nil]); first | done | rfl | (simp only [List.length_drop, List.length_take]; rfl)) ?_; (with_reducible refine (hash_Sum.calls a0 (a1 ++ (strOfNums y122)) t125 _ A11.out).mono ?_); rintro e w24 ⟨rfl, hb⟩; refine ⟨_, rfl, ?_⟩; replace HO120 := Aside0.mk (Kd.R_below (by (with_reducible repeat (first | apply Kd.R_alloc | apply Kd.R_drewN | apply Kd.R_drew)); exact HO120.out) hb); replace HO124 := Aside0.mk (Kd.R_below (by (with_reducible repeat (first | apply Kd.R_alloc | apply Kd.R_drewN | apply Kd.R_drew)); exact HO124.out) hb); replace BK116 := Aside0.mk (blk_below (bo BK116) hb); replace HB := Aside0.mk (below_step (bl HB) hb); (try clear hb); (try clear hb2); (try clear hk); (try clear hi); obtain ⟨hcz25_0, hcz25_1⟩ := ce2 BK116; obtain ⟨hfz25_0, hfz25_1⟩ := fr2 BK116) | (go_at_call 11; (with_reducible refine (sandglasslaw03_live.calls k  t126 _ A13.out).mono ?_); rintro e w26 ⟨rfl, hb⟩; replace HO120 := Aside0.mk (Kd.R_below (by (with_reducible repeat (first | apply Kd.R_alloc | apply Kd.R_drewN | apply Kd.R_drew)); exact HO120.out) hb); replace HO124 := Aside0.mk (Kd.R_below (by (with_reducible repeat (first | apply Kd.R_alloc | apply Kd.R_drewN | apply Kd.R_drew)); exact HO124.out) hb); replace BK116 := Aside0.mk (blk_below (bo BK116) hb); replace HB := Aside0.mk (below_step (bl HB) hb); (try clear hb); (try clear hb2); (try clear hk); (try clear hi)))
          go_ret
          exact ⟨by first | (with_reducible rfl) | rfl | (simp [errW_none, errW_some] <;> rfl) | (simp [*, errW_none, errW_some] <;> rfl), bl HB⟩
        · rw [if_neg c12] at H
          exact absurd H (by simp)
      · rw [if_neg c10] at H
        exact absurd H (by simp)
    · rw [if_neg c8] at H
      exact absurd H (by simp)

end Go.Proofs.Ytkjhhiiickcebaa.Q
