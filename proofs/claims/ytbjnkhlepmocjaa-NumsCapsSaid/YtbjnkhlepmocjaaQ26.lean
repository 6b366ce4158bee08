-- Laid by wip/tools/hprint.py, a program of this repo, over the kit's print; not a text of print.sh.
import Derived.Test.YtbjnkhlepmocjaaQ0
import Derived.Test.YtbjnkhlepmocjaaQ1
import Derived.Test.YtbjnkhlepmocjaaQ4
import Derived.Test.YtbjnkhlepmocjaaQ6
import Derived.Test.YtbjnkhlepmocjaaQ15
namespace Go.Proofs.Ytbjnkhlepmocjaa.Q
open Go.RowKit Go.Proofs.Ytbjnkhlepmocjaa.Zip Go.Proofs.YtbjnkhlepmocjaaW.PrintWords Go.Proofs.YtbjnkhlepmocjaaW.PrintLast Go.Proofs.YtbjnkhlepmocjaaW.PrintMore
attribute [local go_sem] max2_int min2_int max_two min_two max_three min_three max_four min_four   -- for this text's walks alone
set_option linter.unusedVariables false
set_option linter.unusedSimpArgs false

/-! ### sandglasslaw02_NumsCaps: function 8 -/
def sandglasslaw02_NumsCaps.j0 : Nat → Int → Int → Int → Bool → Int → Int → Int → Option (Bool)
  | 0, _, _, _, _, _, _, _ => none
  | k + 1, x0, x1, x7, x49, x219000, x219001, x219002 => if x49 = true then (none) else ((nums_Add.f x0 x1 x7).bind fun t225 => ((nums_Add.f t225 x219002 x7).bind fun t226 => ((nums_Add.f x1 x219002 x7).bind fun t227 => ((nums_Add.f x0 t227 x7).bind fun t228 => (if t226 = t228 then ((nums_Sub.f x0 x1).bind fun t229 => ((nums_Sub.f t229 x219002).bind fun t230 => ((nums_Add.f x1 x219002 18446744073709551615).bind fun t231 => ((nums_Sub.f x0 t231).bind fun t232 => (if t230 = t232 then ((sandglasslaw02_live.f k).bind fun t233 => (some t233)) else (none)))))) else (none))))))
def sandglasslaw02_NumsCaps.f (k : Nat) (a0 : Int) (a1 : Int) (a2_0 : Int) (a2_1 : Int) (a2_2 : Int) : Option (Bool) := (nums_Add.f a0 a1 (mn a2_0 a2_1)).bind fun t219 => ((nums_Add.f a0 a1 a2_0).bind fun t220 => ((nums_Add.f a0 a1 a2_1).bind fun t221 => (if t219 = (mn t220 t221) then ((nums_Mul.f k a0 a1 (mn a2_0 a2_1)).bind fun t222 => ((nums_Mul.f k a0 a1 a2_0).bind fun t223 => ((nums_Mul.f k a0 a1 a2_1).bind fun t224 => (sandglasslaw02_NumsCaps.j0 k a0 a1 (mn a2_0 a2_1) (t222 != (mn t223 t224)) a2_0 a2_1 a2_2)))) else (sandglasslaw02_NumsCaps.j0 k a0 a1 (mn a2_0 a2_1) true a2_0 a2_1 a2_2))))
theorem sandglasslaw02_NumsCaps.mono_l : ∀ k, (∀ y0 y1 y2 y3 y4 y5 y6, LeO (sandglasslaw02_NumsCaps.j0 k y0 y1 y2 y3 y4 y5 y6) (sandglasslaw02_NumsCaps.j0 (k + 1) y0 y1 y2 y3 y4 y5 y6))
  | 0 => fun _ _ _ _ _ _ _ r h => by simp [sandglasslaw02_NumsCaps.j0] at h
  | k + 1 => by
    have ih0 := sandglasslaw02_NumsCaps.mono_l k
    · intro y0 y1 y2 y3 y4 y5 y6
      unfold sandglasslaw02_NumsCaps.j0
      repeat' first
      | (with_reducible exact ih0 _ _ _ _ _ _ _)
      | (with_reducible exact nums_Mul.mono _ _ _ _)
      | (with_reducible exact sandglasslaw02_live.mono _)
      | (with_reducible exact LeO.refl _)
      | (with_reducible exact LeO.none _)
      | (with_reducible refine LeO.ite ?_ ?_)
      | (with_reducible refine LeO.bind ?_ (fun _ => ?_))
      | exact ih0 _ _ _ _ _ _ _
      | exact nums_Mul.mono _ _ _ _
      | exact sandglasslaw02_live.mono _
      | exact LeO.none _
      | refine LeO.ite ?_ ?_
      | refine LeO.bind ?_ (fun _ => ?_)
theorem sandglasslaw02_NumsCaps.mono : ∀ a0 a1 a2 a3 a4 k, LeO (sandglasslaw02_NumsCaps.f k a0 a1 a2 a3 a4) (sandglasslaw02_NumsCaps.f (k + 1) a0 a1 a2 a3 a4) := by
  intro a0 a1 a2 a3 a4 k
  have ih0 := sandglasslaw02_NumsCaps.mono_l k
  unfold sandglasslaw02_NumsCaps.f
  repeat' first
      | (with_reducible exact ih0 _ _ _ _ _ _ _)
      | (with_reducible exact nums_Mul.mono _ _ _ _)
      | (with_reducible exact sandglasslaw02_live.mono _)
      | (with_reducible exact LeO.refl _)
      | (with_reducible exact LeO.none _)
      | (with_reducible refine LeO.ite ?_ ?_)
      | (with_reducible refine LeO.bind ?_ (fun _ => ?_))
      | exact ih0 _ _ _ _ _ _ _
      | exact nums_Mul.mono _ _ _ _
      | exact sandglasslaw02_live.mono _
      | exact LeO.none _
      | refine LeO.ite ?_ ?_
      | refine LeO.bind ?_ (fun _ => ?_)
def sandglasslaw02_NumsCaps.T2 : Bool × List (List Nat × List Nat) := (true, [([], []), ([], []), ([], []), ([0, 1, 2], [0, 1, 2]), ([], []), ([], []), ([], []), ([6], [6]), ([4, 5, 7, 3], [4, 5, 7]), ([], []), ([], []), ([], []), ([11], [11]), ([9, 10, 12, 8], [9, 10, 12]), ([8, 13], [8, 13]), ([3, 14], [3, 14]), ([15, 13], [15]), ([16], [16]), ([16], [16]), ([16], [16]), ([17, 18, 19, 16, 16], [16, 17, 18, 19]), ([16], [16]), ([16], [16]), ([16], [16]), ([23, 16], [16, 23]), ([21, 22, 24, 20, 16], [16, 21, 22, 24]), ([16], [16]), ([16], [16]), ([16], [16]), ([28, 16], [16, 28]), ([26, 27, 29, 25, 16], [16, 26, 27, 29]), ([25, 30, 16], [16, 25, 30]), ([20, 31, 16], [16, 20, 31]), ([16, 32], [16, 32])])
def sandglasslaw02_NumsCaps.B2 : List Nat := [0, 0, 0, 7, 0, 0, 0, 64, 255, 0, 0, 0, 2048, 8191, 16383, 32767, 65535, 131071, 131071, 131071, 1048575, 131071, 131071, 131071, 8519679, 33554431, 131071, 131071, 131071, 268566527, 1073741823, 2147483647, 4294967295, 8589934591]
theorem sandglasslaw02_NumsCaps.tab2 : rtab .any (opsOf Try.f8 2) = sandglasslaw02_NumsCaps.T2 := by kernel_rfl
theorem sandglasslaw02_NumsCaps.bits2 : waitsOk sandglasslaw02_NumsCaps.T2.2 sandglasslaw02_NumsCaps.B2 = true := by kernel_rfl
set_option maxHeartbeats 8000000 in
set_option maxRecDepth 100000 in
theorem sandglasslaw02_NumsCaps.calls (k : Nat) (a0 : Int) (a1 : Int) (a2_0 : Int) (a2_1 : Int) (a2_2 : Int) (r : Bool) (w : World) (h : sandglasslaw02_NumsCaps.f k a0 a1 a2_0 a2_1 a2_2 = some r) :
    Calls Try.prog 8 #[.int .u64 a0, .int .u64 a1, .agg #[.int .u64 a2_0, .int .u64 a2_1, .int .u64 a2_2]] w fun e w' => e = .returned (.bool r) ∧ Below w.heap.size w w' := by
  have hu43 := Try.underlying43
  have HB := Aside0.mk (Below.refl w.heap.size w)
  have H : ((nums_Add.f a0 a1 (mn a2_0 a2_1)).bind fun t219 => ((nums_Add.f a0 a1 a2_0).bind fun t220 => ((nums_Add.f a0 a1 a2_1).bind fun t221 => (if t219 = (mn t220 t221) then ((nums_Mul.f k a0 a1 (mn a2_0 a2_1)).bind fun t222 => ((nums_Mul.f k a0 a1 a2_0).bind fun t223 => ((nums_Mul.f k a0 a1 a2_1).bind fun t224 => (sandglasslaw02_NumsCaps.j0 k a0 a1 (mn a2_0 a2_1) (t222 != (mn t223 t224)) a2_0 a2_1 a2_2)))) else (sandglasslaw02_NumsCaps.j0 k a0 a1 (mn a2_0 a2_1) true a2_0 a2_1 a2_2))))) = some r := h
  clear h
  obtain ⟨ji4, hji4⟩ : ∃ j_ : Int, (mn a2_0 a2_1) = j_ := ⟨_, rfl⟩
  replace H : ((nums_Add.f a0 a1 (ji4)).bind fun t219 => ((nums_Add.f a0 a1 a2_0).bind fun t220 => ((nums_Add.f a0 a1 a2_1).bind fun t221 => (if t219 = (mn t220 t221) then ((nums_Mul.f k a0 a1 (ji4)).bind fun t222 => ((nums_Mul.f k a0 a1 a2_0).bind fun t223 => ((nums_Mul.f k a0 a1 a2_1).bind fun t224 => (sandglasslaw02_NumsCaps.j0 k a0 a1 ji4 (t222 != (mn t223 t224)) a2_0 a2_1 a2_2)))) else (sandglasslaw02_NumsCaps.j0 k a0 a1 ji4 true a2_0 a2_1 a2_2))))) = some r := by first | (rw [hji4] at H; exact H) | (simp only [hji4] at H ⊢; exact H)
  have hji4_ : (if a2_1 < a2_0 then a2_1 else a2_0) = ji4 := hji4
  have HC5 := Aside0.mk H
  clear H
  go_enter Try.func8, Try.ntmps8
  go_upto_region 2 with (first | ((with_reducible refine gate_dst (N := 5) rfl ?_); (try (refine gate_guard (by rfl) ?_; dsimp only)); refine box_event ?hg (N := 5) ?hd (cs := #[.int .u64 a2_0, .int .u64 a2_1, .int .u64 a2_2]) (t := 43) ?hr ?_; (case hd => rfl); (case hg => rfl); (case hr => first | (go_simp; done) | (go_simp; rfl)); intro gb218 hg w6 hbox hb; have BK218 := Aside0.mk (hbox); have GW218 := Aside0.mk ((by rw [hg]; exact (below_size (bl HB)) : w.heap.size ≤ gb218)); have GE218 := Aside0.mk ((by rw [hg]; exact (below_size (bl HB)) : w.heap.size ≤ gb218)); replace HB := Aside0.mk (below_step (bl HB) hb); clear hb hbox hg; obtain ⟨hcz7_0, hcz7_1, hcz7_2⟩ := ce3 BK218; obtain ⟨hfz7_0, hfz7_1, hfz7_2⟩ := fr3 BK218))
  (try simp only [Act.put, List.setIfInBounds_toArray, List.set_cons_zero, List.set_cons_succ])
  go_cut [49] (fun v49 wc => ∃ (kq : Nat) (x49_4 : Bool), v49 = .bool x49_4 ∧ Aside0 (sandglasslaw02_NumsCaps.j0 kq a0 a1 ji4 x49_4 a2_0 a2_1 a2_2 = some r) ∧ Aside0 (kq ≤ k) ∧ Aside0 (wc.heap[gb218]? = some (.cells #[.int .u64 a2_0, .int .u64 a2_1, .int .u64 a2_2] 43 (0, 0))) ∧ Aside0 (Below w.heap.size w wc))
  case first =>
    have H := HC5.out
    clear HC5
    replace H := Option.bind_eq_some_iff.mp H
    obtain ⟨t219, A80, H⟩ := H
    have A8 := Aside0.mk A80
    clear A80
    replace H := Option.bind_eq_some_iff.mp H
    obtain ⟨t220, A90, H⟩ := H
    have A9 := Aside0.mk A90
    clear A90
    replace H := Option.bind_eq_some_iff.mp H
    obtain ⟨t221, A100, H⟩ := H
    have A10 := Aside0.mk A100
    clear A100
    obtain ⟨ji11, hji11⟩ : ∃ j_ : Int, (mn t220 t221) = j_ := ⟨_, rfl⟩
    replace H : (if t219 = (ji11) then ((nums_Mul.f k a0 a1 (ji4)).bind fun t222 => ((nums_Mul.f k a0 a1 a2_0).bind fun t223 => ((nums_Mul.f k a0 a1 a2_1).bind fun t224 => (sandglasslaw02_NumsCaps.j0 k a0 a1 ji4 (t222 != (mn t223 t224)) a2_0 a2_1 a2_2)))) else (sandglasslaw02_NumsCaps.j0 k a0 a1 ji4 true a2_0 a2_1 a2_2)) = some r := by first | (rw [hji11] at H; exact H) | (simp only [hji11] at H ⊢; exact H)
    (try rw [hji11] at A8)
    (try rw [hji11] at A9)
    (try rw [hji11] at A10)
    have hji11_ : (if t221 < t220 then t221 else t220) = ji11 := hji11
    by_cases c12 : t219 = (ji11)
    · rw [if_pos c12] at H
      have c12b0 : (t219 == (ji11)) = true := beq_iff_eq.mpr c12
      have c12b1 : (t219 != (ji11)) = false := bne_eq_false_iff_eq.mpr c12
      clear c12
      (first | rw [c12b0] | (simp only [i64_w, i32_w]; rw [c12b0]) | skip)
      replace H := Option.bind_eq_some_iff.mp H
      obtain ⟨t222, A130, H⟩ := H
      have A13 := Aside0.mk A130
      clear A130
      replace H := Option.bind_eq_some_iff.mp H
      obtain ⟨t223, A140, H⟩ := H
      have A14 := Aside0.mk A140
      clear A140
      replace H := Option.bind_eq_some_iff.mp H
      obtain ⟨t224, A150, H⟩ := H
      have A15 := Aside0.mk A150
      clear A150
      obtain ⟨ji16, hji16⟩ : ∃ j_ : Int, (mn t223 t224) = j_ := ⟨_, rfl⟩
      replace H : (sandglasslaw02_NumsCaps.j0 k a0 a1 ji4 (t222 != (ji16)) a2_0 a2_1 a2_2) = some r := by first | (rw [hji16] at H; exact H) | (simp only [hji16] at H ⊢; exact H)
      (try rw [hji16] at A8)
      (try rw [hji16] at A9)
      (try rw [hji16] at A10)
      (try rw [hji16] at A13)
      (try rw [hji16] at A14)
      (try rw [hji16] at A15)
      have hji16_ : (if t224 < t223 then t224 else t223) = ji16 := hji16
      have H' := Aside0.mk H
      clear H
      try go_wp2
      replace BK218 := Aside0.mk (blk_drew BK218.out)
      replace HB := Aside0.mk (below_drew1 HB.out)
      refine start_ (n := 34) (S := fun w' => w'.cell? ⟨gb218, 0, none⟩ = some (.int .u64 a2_0) ∧ w'.cell? ⟨gb218, 1, none⟩ = some (.int .u64 a2_1) ∧ w'.cell? ⟨gb218, 2, none⟩ = some (.int .u64 a2_2)) (ds := []) #[false, false, false, false, false, false, false, false, false, false, false, false, false, false, false, false, false, false, false, false, false, false, false, false, false, false, false, false, false, false, false, false, false, false] (by kernel_rfl) rfl rfl ⟨(blk_cell BK218.out 0).trans rfl, (blk_cell BK218.out 1).trans rfl, (blk_cell BK218.out 2).trans rfl⟩ (fun hHeld => ?_); refine with_tabW sandglasslaw02_NumsCaps.tab2 sandglasslaw02_NumsCaps.bits2 (fun HT_ HW_ => ?_)
      generalize w6.drew = w17 at BK218 HB hHeld ⊢
      refine pureA 0 16 HT_ ?_
      refine pureA 1 17 HT_ ?_
      refine pureA 2 18 HT_ ?_
      refine pureA 4 20 HT_ ?_
      refine pureA 5 21 HT_ ?_
      refine pureA 6 22 HT_ ?_
      refine pureA 9 25 HT_ ?_
      refine pureA 10 26 HT_ ?_
      refine pureA 11 27 HT_ ?_
      refine takeA 7 23 HT_ HW_ hHeld ?_
      refine takeA 12 28 HT_ HW_ hHeld ?_
      refine one_ (i := 3) (N := some 19) #[true, true, true, true, true, true, true, true, false, true, true, true, true, false, false, false, false, false, false, false, false, false, false, false, false, false, false, false, false, false, false, false, false, false] rfl rfl (one_of HT_.out (by kernel_rfl)) (by decide) (fun K hK => ?_)
      refine goes_ Try.func9 (by kernel_rfl) rfl #[.int .u64 a0, .int .u64 a1, .int .u64 ji4] (by rfl) rfl rfl (by (try simp only [List.map_toArray, List.map_cons, List.map_nil]); first | done | (simp only [hji4]; rfl) | rfl | (simp only [List.length_drop, List.length_take]; rfl)) ?_
      with_reducible refine (nums_Add.calls a0 a1 ji4 t219 _ A8.out).mono ?_
      rintro e w18 ⟨rfl, hb⟩
      refine ⟨_, rfl, ?_⟩
      replace BK218 := Aside0.mk (blk_below (bo BK218) hb)
      replace HB := Aside0.mk (below_step (bl HB) hb)
      (try clear hb)
      (try clear hb2)
      (try clear hk)
      (try clear hi)
      refine hK.out _ _ ⟨(blk_cell BK218.out 0).trans rfl, (blk_cell BK218.out 1).trans rfl, (blk_cell BK218.out 2).trans rfl⟩ (fun hHeld => ?_)
      clear hK K
      refine norm_ (a' := ?_) ?_ ?_
      rotate_left
      · show Act.put _ (some 19) _ = _
        simp only [Act.put, List.setIfInBounds_toArray, List.set_cons_zero, List.set_cons_succ, i64_w, i32_w]
        rfl
      refine one_ (i := 8) (N := some 24) #[true, true, true, true, true, true, true, true, true, true, true, true, true, false, false, false, false, false, false, false, false, false, false, false, false, false, false, false, false, false, false, false, false, false] rfl rfl (one_of HT_.out (by kernel_rfl)) (by decide) (fun K hK => ?_)
      refine goes_ Try.func9 (by kernel_rfl) rfl #[.int .u64 a0, .int .u64 a1, .int .u64 a2_0] (by rfl) rfl rfl (by (try simp only [List.map_toArray, List.map_cons, List.map_nil]); first | done | rfl | (simp only [List.length_drop, List.length_take]; rfl)) ?_
      with_reducible refine (nums_Add.calls a0 a1 a2_0 t220 _ A9.out).mono ?_
      rintro e w19 ⟨rfl, hb⟩
      refine ⟨_, rfl, ?_⟩
      replace BK218 := Aside0.mk (blk_below (bo BK218) hb)
      replace HB := Aside0.mk (below_step (bl HB) hb)
      (try clear hb)
      (try clear hb2)
      (try clear hk)
      (try clear hi)
      refine hK.out _ _ ⟨(blk_cell BK218.out 0).trans rfl, (blk_cell BK218.out 1).trans rfl, (blk_cell BK218.out 2).trans rfl⟩ (fun hHeld => ?_)
      clear hK K
      refine norm_ (a' := ?_) ?_ ?_
      rotate_left
      · show Act.put _ (some 24) _ = _
        simp only [Act.put, List.setIfInBounds_toArray, List.set_cons_zero, List.set_cons_succ, i64_w, i32_w]
        rfl
      refine one_ (i := 13) (N := some 29) #[true, true, true, true, true, true, true, true, true, true, true, true, true, true, false, false, false, false, false, false, false, false, false, false, false, false, false, false, false, false, false, false, false, false] rfl rfl (one_of HT_.out (by kernel_rfl)) (by decide) (fun K hK => ?_)
      refine goes_ Try.func9 (by kernel_rfl) rfl #[.int .u64 a0, .int .u64 a1, .int .u64 a2_1] (by rfl) rfl rfl (by (try simp only [List.map_toArray, List.map_cons, List.map_nil]); first | done | rfl | (simp only [List.length_drop, List.length_take]; rfl)) ?_
      with_reducible refine (nums_Add.calls a0 a1 a2_1 t221 _ A10.out).mono ?_
      rintro e w20 ⟨rfl, hb⟩
      refine ⟨_, rfl, ?_⟩
      replace BK218 := Aside0.mk (blk_below (bo BK218) hb)
      replace HB := Aside0.mk (below_step (bl HB) hb)
      (try clear hb)
      (try clear hb2)
      (try clear hk)
      (try clear hi)
      refine hK.out _ _ ⟨(blk_cell BK218.out 0).trans rfl, (blk_cell BK218.out 1).trans rfl, (blk_cell BK218.out 2).trans rfl⟩ (fun hHeld => ?_)
      clear hK K
      refine norm_ (a' := ?_) ?_ ?_
      rotate_left
      · show Act.put _ (some 29) _ = _
        simp only [Act.put, List.setIfInBounds_toArray, List.set_cons_zero, List.set_cons_succ, i64_w, i32_w]
        rfl
      refine pureA 14 30 HT_ ?_
      refine pureA 15 31 HT_ ?_
      refine pureA 16 32 HT_ ?_
      refine pureA 17 33 HT_ ?_
      refine pureA 18 34 HT_ ?_
      refine pureA 19 35 HT_ ?_
      refine pureA 21 37 HT_ ?_
      refine pureA 22 38 HT_ ?_
      refine pureA 23 39 HT_ ?_
      refine pureA 26 42 HT_ ?_
      refine pureA 27 43 HT_ ?_
      refine pureA 28 44 HT_ ?_
      refine takeA 24 40 HT_ HW_ hHeld ?_
      refine takeA 29 45 HT_ HW_ hHeld ?_
      refine one_ (i := 20) (N := some 36) #[true, true, true, true, true, true, true, true, true, true, true, true, true, true, true, true, true, true, true, true, true, true, true, true, true, false, true, true, true, true, false, false, false, false] rfl rfl (one_of HT_.out (by kernel_rfl)) (by decide) (fun K hK => ?_)
      refine goes_ Try.func11 (by kernel_rfl) rfl #[.int .u64 a0, .int .u64 a1, .int .u64 ji4] (by rfl) rfl rfl (by (try simp only [List.map_toArray, List.map_cons, List.map_nil]); first | done | (simp only [hji4]; rfl) | rfl | (simp only [List.length_drop, List.length_take]; rfl)) ?_
      with_reducible refine (nums_Mul.calls k a0 a1 ji4 t222 _ A13.out).mono ?_
      rintro e w21 ⟨rfl, hb⟩
      refine ⟨_, rfl, ?_⟩
      replace BK218 := Aside0.mk (blk_below (bo BK218) hb)
      replace HB := Aside0.mk (below_step (bl HB) hb)
      (try clear hb)
      (try clear hb2)
      (try clear hk)
      (try clear hi)
      refine hK.out _ _ ⟨(blk_cell BK218.out 0).trans rfl, (blk_cell BK218.out 1).trans rfl, (blk_cell BK218.out 2).trans rfl⟩ (fun hHeld => ?_)
      clear hK K
      refine norm_ (a' := ?_) ?_ ?_
      rotate_left
      · show Act.put _ (some 36) _ = _
        simp only [Act.put, List.setIfInBounds_toArray, List.set_cons_zero, List.set_cons_succ, i64_w, i32_w]
        rfl
      refine one_ (i := 25) (N := some 41) #[true, true, true, true, true, true, true, true, true, true, true, true, true, true, true, true, true, true, true, true, true, true, true, true, true, true, true, true, true, true, false, false, false, false] rfl rfl (one_of HT_.out (by kernel_rfl)) (by decide) (fun K hK => ?_)
      refine goes_ Try.func11 (by kernel_rfl) rfl #[.int .u64 a0, .int .u64 a1, .int .u64 a2_0] (by rfl) rfl rfl (by (try simp only [List.map_toArray, List.map_cons, List.map_nil]); first | done | rfl | (simp only [List.length_drop, List.length_take]; rfl)) ?_
      with_reducible refine (nums_Mul.calls k a0 a1 a2_0 t223 _ A14.out).mono ?_
      rintro e w22 ⟨rfl, hb⟩
      refine ⟨_, rfl, ?_⟩
      replace BK218 := Aside0.mk (blk_below (bo BK218) hb)
      replace HB := Aside0.mk (below_step (bl HB) hb)
      (try clear hb)
      (try clear hb2)
      (try clear hk)
      (try clear hi)
      refine hK.out _ _ ⟨(blk_cell BK218.out 0).trans rfl, (blk_cell BK218.out 1).trans rfl, (blk_cell BK218.out 2).trans rfl⟩ (fun hHeld => ?_)
      clear hK K
      refine norm_ (a' := ?_) ?_ ?_
      rotate_left
      · show Act.put _ (some 41) _ = _
        simp only [Act.put, List.setIfInBounds_toArray, List.set_cons_zero, List.set_cons_succ, i64_w, i32_w]
        rfl
      refine one_ (i := 30) (N := some 46) #[true, true, true, true, true, true, true, true, true, true, true, true, true, true, true, true, true, true, true, true, true, true, true, true, true, true, true, true, true, true, true, false, false, false] rfl rfl (one_of HT_.out (by kernel_rfl)) (by decide) (fun K hK => ?_)
      refine goes_ Try.func11 (by kernel_rfl) rfl #[.int .u64 a0, .int .u64 a1, .int .u64 a2_1] (by rfl) rfl rfl (by (try simp only [List.map_toArray, List.map_cons, List.map_nil]); first | done | rfl | (simp only [List.length_drop, List.length_take]; rfl)) ?_
      with_reducible refine (nums_Mul.calls k a0 a1 a2_1 t224 _ A15.out).mono ?_
      rintro e w23 ⟨rfl, hb⟩
      refine ⟨_, rfl, ?_⟩
      replace BK218 := Aside0.mk (blk_below (bo BK218) hb)
      replace HB := Aside0.mk (below_step (bl HB) hb)
      (try clear hb)
      (try clear hb2)
      (try clear hk)
      (try clear hi)
      refine hK.out _ _ ⟨(blk_cell BK218.out 0).trans rfl, (blk_cell BK218.out 1).trans rfl, (blk_cell BK218.out 2).trans rfl⟩ (fun hHeld => ?_)
      clear hK K
      refine norm_ (a' := ?_) ?_ ?_
      rotate_left
      · show Act.put _ (some 46) _ = _
        simp only [Act.put, List.setIfInBounds_toArray, List.set_cons_zero, List.set_cons_succ, i64_w, i32_w]
        rfl
      refine pureA 31 47 HT_ ?_
      refine pureA 32 48 HT_ ?_
      refine pureA 33 49 HT_ ?_
      refine done_ (done_of HT_.out (by kernel_rfl)) ?_
      try go_wp2
      go_meet
      case rel => exact ⟨_, ((t222 != (ji16))), (by first | (with_reducible rfl) | (simp only [← hji16]; with_reducible rfl) | (simp only [← hji16]; done) | rfl | (simp; done) | (simp only [← hji16] <;> (first | rfl | simp)) | (simp [*]; done)), H', ⟨by first | omega | exact Nat.le_refl _⟩, ⟨bo BK218⟩, ⟨bl HB⟩⟩
    · rw [if_neg c12] at H
      have c12b0 : (t219 == (ji11)) = false := beq_eq_false_iff_ne.mpr c12
      have c12b1 : (t219 != (ji11)) = true := bne_iff_ne.mpr c12
      (first | rw [c12b0] | (simp only [i64_w, i32_w]; rw [c12b0]) | skip)
      have H' := Aside0.mk H
      clear H
      try go_wp2
      replace BK218 := Aside0.mk (blk_drew BK218.out)
      replace HB := Aside0.mk (below_drew1 HB.out)
      refine start_ (n := 34) (S := fun w' => w'.cell? ⟨gb218, 0, none⟩ = some (.int .u64 a2_0) ∧ w'.cell? ⟨gb218, 1, none⟩ = some (.int .u64 a2_1) ∧ w'.cell? ⟨gb218, 2, none⟩ = some (.int .u64 a2_2)) (ds := []) #[false, false, false, false, false, false, false, false, false, false, false, false, false, false, false, false, false, false, false, false, false, false, false, false, false, false, false, false, false, false, false, false, false, false] (by kernel_rfl) rfl rfl ⟨(blk_cell BK218.out 0).trans rfl, (blk_cell BK218.out 1).trans rfl, (blk_cell BK218.out 2).trans rfl⟩ (fun hHeld => ?_); refine with_tabW sandglasslaw02_NumsCaps.tab2 sandglasslaw02_NumsCaps.bits2 (fun HT_ HW_ => ?_)
      generalize w6.drew = w24 at BK218 HB hHeld ⊢
      refine pureA 0 16 HT_ ?_
      refine pureA 1 17 HT_ ?_
      refine pureA 2 18 HT_ ?_
      refine pureA 4 20 HT_ ?_
      refine pureA 5 21 HT_ ?_
      refine pureA 6 22 HT_ ?_
      refine pureA 9 25 HT_ ?_
      refine pureA 10 26 HT_ ?_
      refine pureA 11 27 HT_ ?_
      refine takeA 7 23 HT_ HW_ hHeld ?_
      refine takeA 12 28 HT_ HW_ hHeld ?_
      refine one_ (i := 3) (N := some 19) #[true, true, true, true, true, true, true, true, false, true, true, true, true, false, false, false, false, false, false, false, false, false, false, false, false, false, false, false, false, false, false, false, false, false] rfl rfl (one_of HT_.out (by kernel_rfl)) (by decide) (fun K hK => ?_)
      refine goes_ Try.func9 (by kernel_rfl) rfl #[.int .u64 a0, .int .u64 a1, .int .u64 ji4] (by rfl) rfl rfl (by (try simp only [List.map_toArray, List.map_cons, List.map_nil]); first | done | (simp only [hji4]; rfl) | rfl | (simp only [List.length_drop, List.length_take]; rfl)) ?_
      with_reducible refine (nums_Add.calls a0 a1 ji4 t219 _ A8.out).mono ?_
      rintro e w25 ⟨rfl, hb⟩
      refine ⟨_, rfl, ?_⟩
      replace BK218 := Aside0.mk (blk_below (bo BK218) hb)
      replace HB := Aside0.mk (below_step (bl HB) hb)
      (try clear hb)
      (try clear hb2)
      (try clear hk)
      (try clear hi)
      refine hK.out _ _ ⟨(blk_cell BK218.out 0).trans rfl, (blk_cell BK218.out 1).trans rfl, (blk_cell BK218.out 2).trans rfl⟩ (fun hHeld => ?_)
      clear hK K
      refine norm_ (a' := ?_) ?_ ?_
      rotate_left
      · show Act.put _ (some 19) _ = _
        simp only [Act.put, List.setIfInBounds_toArray, List.set_cons_zero, List.set_cons_succ, i64_w, i32_w]
        rfl
      refine one_ (i := 8) (N := some 24) #[true, true, true, true, true, true, true, true, true, true, true, true, true, false, false, false, false, false, false, false, false, false, false, false, false, false, false, false, false, false, false, false, false, false] rfl rfl (one_of HT_.out (by kernel_rfl)) (by decide) (fun K hK => ?_)
      refine goes_ Try.func9 (by kernel_rfl) rfl #[.int .u64 a0, .int .u64 a1, .int .u64 a2_0] (by rfl) rfl rfl (by (try simp only [List.map_toArray, List.map_cons, List.map_nil]); first | done | rfl | (simp only [List.length_drop, List.length_take]; rfl)) ?_
      with_reducible refine (nums_Add.calls a0 a1 a2_0 t220 _ A9.out).mono ?_
      rintro e w26 ⟨rfl, hb⟩
      refine ⟨_, rfl, ?_⟩
      replace BK218 := Aside0.mk (blk_below (bo BK218) hb)
      replace HB := Aside0.mk (below_step (bl HB) hb)
      (try clear hb)
      (try clear hb2)
      (try clear hk)
      (try clear hi)
      refine hK.out _ _ ⟨(blk_cell BK218.out 0).trans rfl, (blk_cell BK218.out 1).trans rfl, (blk_cell BK218.out 2).trans rfl⟩ (fun hHeld => ?_)
      clear hK K
      refine norm_ (a' := ?_) ?_ ?_
      rotate_left
      · show Act.put _ (some 24) _ = _
        simp only [Act.put, List.setIfInBounds_toArray, List.set_cons_zero, List.set_cons_succ, i64_w, i32_w]
        rfl
      refine one_ (i := 13) (N := some 29) #[true, true, true, true, true, true, true, true, true, true, true, true, true, true, false, false, false, false, false, false, false, false, false, false, false, false, false, false, false, false, false, false, false, false] rfl rfl (one_of HT_.out (by kernel_rfl)) (by decide) (fun K hK => ?_)
      refine goes_ Try.func9 (by kernel_rfl) rfl #[.int .u64 a0, .int .u64 a1, .int .u64 a2_1] (by rfl) rfl rfl (by (try simp only [List.map_toArray, List.map_cons, List.map_nil]); first | done | rfl | (simp only [List.length_drop, List.length_take]; rfl)) ?_
      with_reducible refine (nums_Add.calls a0 a1 a2_1 t221 _ A10.out).mono ?_
      rintro e w27 ⟨rfl, hb⟩
      refine ⟨_, rfl, ?_⟩
      replace BK218 := Aside0.mk (blk_below (bo BK218) hb)
      replace HB := Aside0.mk (below_step (bl HB) hb)
      (try clear hb)
      (try clear hb2)
      (try clear hk)
      (try clear hi)
      refine hK.out _ _ ⟨(blk_cell BK218.out 0).trans rfl, (blk_cell BK218.out 1).trans rfl, (blk_cell BK218.out 2).trans rfl⟩ (fun hHeld => ?_)
      clear hK K
      refine norm_ (a' := ?_) ?_ ?_
      rotate_left
      · show Act.put _ (some 29) _ = _
        simp only [Act.put, List.setIfInBounds_toArray, List.set_cons_zero, List.set_cons_succ, i64_w, i32_w]
        rfl
      refine pureA 14 30 HT_ ?_
      refine pureA 15 31 HT_ ?_
      refine pureA 16 32 HT_ ?_
      refine pure_ (i := 17) (N := some 33) (v := undef) (a' := ?_) #[true, true, true, true, true, true, true, true, true, true, true, true, true, true, true, true, true, true, false, false, false, false, false, false, false, false, false, false, false, false, false, false, false, false] rfl rfl (any_of HT_.out (by kernel_rfl)) (fun _ _ _ h => h) (Or.inr ⟨by rfl, rfl⟩) ?_ ?_
      rotate_left
      · simp only [Act.put, List.setIfInBounds_toArray, List.set_cons_zero, List.set_cons_succ, i64_w, i32_w]
        rfl
      refine pure_ (i := 18) (N := some 34) (v := undef) (a' := ?_) #[true, true, true, true, true, true, true, true, true, true, true, true, true, true, true, true, true, true, true, false, false, false, false, false, false, false, false, false, false, false, false, false, false, false] rfl rfl (any_of HT_.out (by kernel_rfl)) (fun _ _ _ h => h) (Or.inr ⟨by rfl, rfl⟩) ?_ ?_
      rotate_left
      · simp only [Act.put, List.setIfInBounds_toArray, List.set_cons_zero, List.set_cons_succ, i64_w, i32_w]
        rfl
      refine pure_ (i := 19) (N := some 35) (v := undef) (a' := ?_) #[true, true, true, true, true, true, true, true, true, true, true, true, true, true, true, true, true, true, true, true, false, false, false, false, false, false, false, false, false, false, false, false, false, false] rfl rfl (any_of HT_.out (by kernel_rfl)) (fun _ _ _ h => h) (Or.inr ⟨by rfl, rfl⟩) ?_ ?_
      rotate_left
      · simp only [Act.put, List.setIfInBounds_toArray, List.set_cons_zero, List.set_cons_succ, i64_w, i32_w]
        rfl
      refine pure_ (i := 20) (N := some 36) (v := undef) (a' := ?_) #[true, true, true, true, true, true, true, true, true, true, true, true, true, true, true, true, true, true, true, true, true, false, false, false, false, false, false, false, false, false, false, false, false, false] rfl rfl (any_of HT_.out (by kernel_rfl)) (fun _ _ _ h => h) (Or.inr ⟨by rfl, rfl⟩) ?_ ?_
      rotate_left
      · simp only [Act.put, List.setIfInBounds_toArray, List.set_cons_zero, List.set_cons_succ, i64_w, i32_w]
        rfl
      refine pure_ (i := 21) (N := some 37) (v := undef) (a' := ?_) #[true, true, true, true, true, true, true, true, true, true, true, true, true, true, true, true, true, true, true, true, true, true, false, false, false, false, false, false, false, false, false, false, false, false] rfl rfl (any_of HT_.out (by kernel_rfl)) (fun _ _ _ h => h) (Or.inr ⟨by rfl, rfl⟩) ?_ ?_
      rotate_left
      · simp only [Act.put, List.setIfInBounds_toArray, List.set_cons_zero, List.set_cons_succ, i64_w, i32_w]
        rfl
      refine pure_ (i := 22) (N := some 38) (v := undef) (a' := ?_) #[true, true, true, true, true, true, true, true, true, true, true, true, true, true, true, true, true, true, true, true, true, true, true, false, false, false, false, false, false, false, false, false, false, false] rfl rfl (any_of HT_.out (by kernel_rfl)) (fun _ _ _ h => h) (Or.inr ⟨by rfl, rfl⟩) ?_ ?_
      rotate_left
      · simp only [Act.put, List.setIfInBounds_toArray, List.set_cons_zero, List.set_cons_succ, i64_w, i32_w]
        rfl
      refine pure_ (i := 23) (N := some 39) (v := undef) (a' := ?_) #[true, true, true, true, true, true, true, true, true, true, true, true, true, true, true, true, true, true, true, true, true, true, true, true, false, false, false, false, false, false, false, false, false, false] rfl rfl (any_of HT_.out (by kernel_rfl)) (fun _ _ _ h => h) (Or.inr ⟨by rfl, rfl⟩) ?_ ?_
      rotate_left
      · simp only [Act.put, List.setIfInBounds_toArray, List.set_cons_zero, List.set_cons_succ, i64_w, i32_w]
        rfl
      refine pure_ (i := 24) (N := some 40) (v := undef) (a' := ?_) #[true, true, true, true, true, true, true, true, true, true, true, true, true, true, true, true, true, true, true, true, true, true, true, true, true, false, false, false, false, false, false, false, false, false] rfl rfl (any_of HT_.out (by kernel_rfl)) (fun _ _ _ h => h) (Or.inr ⟨by rfl, rfl⟩) ?_ ?_
      rotate_left
      · simp only [Act.put, List.setIfInBounds_toArray, List.set_cons_zero, List.set_cons_succ, i64_w, i32_w]
        rfl
      refine pure_ (i := 25) (N := some 41) (v := undef) (a' := ?_) #[true, true, true, true, true, true, true, true, true, true, true, true, true, true, true, true, true, true, true, true, true, true, true, true, true, true, false, false, false, false, false, false, false, false] rfl rfl (any_of HT_.out (by kernel_rfl)) (fun _ _ _ h => h) (Or.inr ⟨by rfl, rfl⟩) ?_ ?_
      rotate_left
      · simp only [Act.put, List.setIfInBounds_toArray, List.set_cons_zero, List.set_cons_succ, i64_w, i32_w]
        rfl
      refine pure_ (i := 26) (N := some 42) (v := undef) (a' := ?_) #[true, true, true, true, true, true, true, true, true, true, true, true, true, true, true, true, true, true, true, true, true, true, true, true, true, true, true, false, false, false, false, false, false, false] rfl rfl (any_of HT_.out (by kernel_rfl)) (fun _ _ _ h => h) (Or.inr ⟨by rfl, rfl⟩) ?_ ?_
      rotate_left
      · simp only [Act.put, List.setIfInBounds_toArray, List.set_cons_zero, List.set_cons_succ, i64_w, i32_w]
        rfl
      refine pure_ (i := 27) (N := some 43) (v := undef) (a' := ?_) #[true, true, true, true, true, true, true, true, true, true, true, true, true, true, true, true, true, true, true, true, true, true, true, true, true, true, true, true, false, false, false, false, false, false] rfl rfl (any_of HT_.out (by kernel_rfl)) (fun _ _ _ h => h) (Or.inr ⟨by rfl, rfl⟩) ?_ ?_
      rotate_left
      · simp only [Act.put, List.setIfInBounds_toArray, List.set_cons_zero, List.set_cons_succ, i64_w, i32_w]
        rfl
      refine pure_ (i := 28) (N := some 44) (v := undef) (a' := ?_) #[true, true, true, true, true, true, true, true, true, true, true, true, true, true, true, true, true, true, true, true, true, true, true, true, true, true, true, true, true, false, false, false, false, false] rfl rfl (any_of HT_.out (by kernel_rfl)) (fun _ _ _ h => h) (Or.inr ⟨by rfl, rfl⟩) ?_ ?_
      rotate_left
      · simp only [Act.put, List.setIfInBounds_toArray, List.set_cons_zero, List.set_cons_succ, i64_w, i32_w]
        rfl
      refine pure_ (i := 29) (N := some 45) (v := undef) (a' := ?_) #[true, true, true, true, true, true, true, true, true, true, true, true, true, true, true, true, true, true, true, true, true, true, true, true, true, true, true, true, true, true, false, false, false, false] rfl rfl (any_of HT_.out (by kernel_rfl)) (fun _ _ _ h => h) (Or.inr ⟨by rfl, rfl⟩) ?_ ?_
      rotate_left
      · simp only [Act.put, List.setIfInBounds_toArray, List.set_cons_zero, List.set_cons_succ, i64_w, i32_w]
        rfl
      refine pure_ (i := 30) (N := some 46) (v := undef) (a' := ?_) #[true, true, true, true, true, true, true, true, true, true, true, true, true, true, true, true, true, true, true, true, true, true, true, true, true, true, true, true, true, true, true, false, false, false] rfl rfl (any_of HT_.out (by kernel_rfl)) (fun _ _ _ h => h) (Or.inr ⟨by rfl, rfl⟩) ?_ ?_
      rotate_left
      · simp only [Act.put, List.setIfInBounds_toArray, List.set_cons_zero, List.set_cons_succ, i64_w, i32_w]
        rfl
      refine pure_ (i := 31) (N := some 47) (v := undef) (a' := ?_) #[true, true, true, true, true, true, true, true, true, true, true, true, true, true, true, true, true, true, true, true, true, true, true, true, true, true, true, true, true, true, true, true, false, false] rfl rfl (any_of HT_.out (by kernel_rfl)) (fun _ _ _ h => h) (Or.inr ⟨by rfl, rfl⟩) ?_ ?_
      rotate_left
      · simp only [Act.put, List.setIfInBounds_toArray, List.set_cons_zero, List.set_cons_succ, i64_w, i32_w]
        rfl
      refine pure_ (i := 32) (N := some 48) (v := undef) (a' := ?_) #[true, true, true, true, true, true, true, true, true, true, true, true, true, true, true, true, true, true, true, true, true, true, true, true, true, true, true, true, true, true, true, true, true, false] rfl rfl (any_of HT_.out (by kernel_rfl)) (fun _ _ _ h => h) (Or.inr ⟨by rfl, rfl⟩) ?_ ?_
      rotate_left
      · simp only [Act.put, List.setIfInBounds_toArray, List.set_cons_zero, List.set_cons_succ, i64_w, i32_w]
        rfl
      refine pureA 33 49 HT_ ?_
      refine done_ (done_of HT_.out (by kernel_rfl)) ?_
      try go_wp2
      go_meet
      case rel => exact ⟨_, (true), (by first | (with_reducible rfl) | rfl | (simp; done) | (simp [*]; done)), H', ⟨by first | omega | exact Nat.le_refl _⟩, ⟨bo BK218⟩, ⟨bl HB⟩⟩
  case rest =>
    clear HC5
    try clear c1
    try clear p2
    try clear c9
    try clear c11
    try clear c12
    try clear c12b0
    try clear c12b1
    obtain ⟨kq, x49_4, rfl, HA, HJ4, BK218, HB⟩ := hcut
    cases kq with
    | zero => exact absurd HA.out (by simp [sandglasslaw02_NumsCaps.j0])
    | succ kj4 =>
      have H := HA.out
      clear HA
      simp only [sandglasslaw02_NumsCaps.j0] at H
      by_cases c28 : x49_4 = true
      · subst c28
        rw [if_pos rfl] at H
        exact absurd H (by simp)
      · replace c28 := Bool.eq_false_iff.mpr c28
        subst c28
        rw [if_neg (show ¬ (false = true) by decide)] at H
        replace H := Option.bind_eq_some_iff.mp H
        obtain ⟨t225, A290, H⟩ := H
        have A29 := Aside0.mk A290
        clear A290
        replace H := Option.bind_eq_some_iff.mp H
        obtain ⟨t226, A300, H⟩ := H
        have A30 := Aside0.mk A300
        clear A300
        replace H := Option.bind_eq_some_iff.mp H
        obtain ⟨t227, A310, H⟩ := H
        have A31 := Aside0.mk A310
        clear A310
        replace H := Option.bind_eq_some_iff.mp H
        obtain ⟨t228, A320, H⟩ := H
        have A32 := Aside0.mk A320
        clear A320
        by_cases c33 : t226 = t228
        · rw [if_pos c33] at H
          have c33b0 : (t226 == t228) = true := beq_iff_eq.mpr c33
          have c33b1 : (t226 != t228) = false := bne_eq_false_iff_eq.mpr c33
          clear c33
          replace H := Option.bind_eq_some_iff.mp H
          obtain ⟨t229, A340, H⟩ := H
          have A34 := Aside0.mk A340
          clear A340
          replace H := Option.bind_eq_some_iff.mp H
          obtain ⟨t230, A350, H⟩ := H
          have A35 := Aside0.mk A350
          clear A350
          replace H := Option.bind_eq_some_iff.mp H
          obtain ⟨t231, A360, H⟩ := H
          have A36 := Aside0.mk A360
          clear A360
          replace H := Option.bind_eq_some_iff.mp H
          obtain ⟨t232, A370, H⟩ := H
          have A37 := Aside0.mk A370
          clear A370
          by_cases c38 : t230 = t232
          · rw [if_pos c38] at H
            have c38b0 : (t230 == t232) = true := beq_iff_eq.mpr c38
            have c38b1 : (t230 != t232) = false := bne_eq_false_iff_eq.mpr c38
            clear c38
            replace H := Option.bind_eq_some_iff.mp H
            obtain ⟨t233, A390, H⟩ := H
            have A39 := Aside0.mk A390
            clear A390
            obtain rfl := Option.some.inj H
            obtain ⟨hcz40_0, hcz40_1, hcz40_2⟩ := ce3 BK218
            obtain ⟨hfz40_0, hfz40_1, hfz40_2⟩ := fr3 BK218
            go_wp2_with (first | ((with_reducible refine gate_callee (f := 9) rfl ?_); refine goesL_ (some 55) rfl rfl Try.func9 (by kernel_rfl) rfl #[.int .u64 a0, .int .u64 a1, .int .u64 ji4] rfl (by (try simp only [List.map_toArray, List.map_cons, List.map_nil]); first | done | (simp only [hji4]; rfl) | rfl | (simp only [List.length_drop, List.length_take]; rfl)) ?_; (with_reducible refine (nums_Add.calls a0 a1 ji4 t225 _ A29.out).mono ?_); rintro e w41 ⟨rfl, hb⟩; refine ⟨_, rfl, ?_⟩; replace BK218 := Aside0.mk (blk_below (bo BK218) hb); replace HB := Aside0.mk (below_step (bl HB) hb); (try clear hb); (try clear hb2); (try clear hk); (try clear hi)) | ((with_reducible refine gate_callee (f := 9) rfl ?_); refine goesL_ (some 58) rfl rfl Try.func9 (by kernel_rfl) rfl #[.int .u64 t225, .int .u64 a2_2, .int .u64 ji4] rfl (by (try simp only [List.map_toArray, List.map_cons, List.map_nil]); first | done | (simp only [hji4]; rfl) | rfl | (simp only [List.length_drop, List.length_take]; rfl)) ?_; (with_reducible refine (nums_Add.calls t225 a2_2 ji4 t226 _ A30.out).mono ?_); rintro e w42 ⟨rfl, hb⟩; refine ⟨_, rfl, ?_⟩; replace BK218 := Aside0.mk (blk_below (bo BK218) hb); replace HB := Aside0.mk (below_step (bl HB) hb); (try clear hb); (try clear hb2); (try clear hk); (try clear hi)) | ((with_reducible refine gate_callee (f := 9) rfl ?_); refine goesL_ (some 63) rfl rfl Try.func9 (by kernel_rfl) rfl #[.int .u64 a1, .int .u64 a2_2, .int .u64 ji4] rfl (by (try simp only [List.map_toArray, List.map_cons, List.map_nil]); first | done | (simp only [hji4]; rfl) | rfl | (simp only [List.length_drop, List.length_take]; rfl)) ?_; (with_reducible refine (nums_Add.calls a1 a2_2 ji4 t227 _ A31.out).mono ?_); rintro e w43 ⟨rfl, hb⟩; refine ⟨_, rfl, ?_⟩; replace BK218 := Aside0.mk (blk_below (bo BK218) hb); replace HB := Aside0.mk (below_step (bl HB) hb); (try clear hb); (try clear hb2); (try clear hk); (try clear hi)) | ((with_reducible refine gate_callee (f := 9) rfl ?_); refine goesL_ (some 65) rfl rfl Try.func9 (by kernel_rfl) rfl #[.int .u64 a0, .int .u64 t227, .int .u64 ji4] rfl (by (try simp only [List.map_toArray, List.map_cons, List.map_nil]); first | done | (simp only [hji4]; rfl) | rfl | (simp only [List.length_drop, List.length_take]; rfl)) ?_; (with_reducible refine (nums_Add.calls a0 t227 ji4 t228 _ A32.out).mono ?_); rintro e w44 ⟨rfl, hb⟩; refine ⟨_, rfl, ?_⟩; replace BK218 := Aside0.mk (blk_below (bo BK218) hb); replace HB := Aside0.mk (below_step (bl HB) hb); (try clear hb); (try clear hb2); (try clear hk); (try clear hi)) | (go_at_call 13; (with_reducible refine (nums_Sub.calls a0 a1 t229 _ A34.out).mono ?_); rintro e w45 ⟨rfl, hb⟩; replace BK218 := Aside0.mk (blk_below (bo BK218) hb); replace HB := Aside0.mk (below_step (bl HB) hb); (try clear hb); (try clear hb2); (try clear hk); (try clear hi)) | (go_at_call 13; (with_reducible refine (nums_Sub.calls t229 a2_2 t230 _ A35.out).mono ?_); rintro e w46 ⟨rfl, hb⟩; replace BK218 := Aside0.mk (blk_below (bo BK218) hb); replace HB := Aside0.mk (below_step (bl HB) hb); (try clear hb); (try clear hb2); (try clear hk); (try clear hi)) | (go_at_call 9; (with_reducible refine (nums_Add.calls a1 a2_2 18446744073709551615 t231 _ A36.out).mono ?_); rintro e w47 ⟨rfl, hb⟩; replace BK218 := Aside0.mk (blk_below (bo BK218) hb); replace HB := Aside0.mk (below_step (bl HB) hb); (try clear hb); (try clear hb2); (try clear hk); (try clear hi)) | (go_at_call 13; (with_reducible refine (nums_Sub.calls a0 t231 t232 _ A37.out).mono ?_); rintro e w48 ⟨rfl, hb⟩; replace BK218 := Aside0.mk (blk_below (bo BK218) hb); replace HB := Aside0.mk (below_step (bl HB) hb); (try clear hb); (try clear hb2); (try clear hk); (try clear hi)) | (go_at_call 17; (with_reducible refine (sandglasslaw02_live.calls kj4  t233 _ A39.out).mono ?_); rintro e w49 ⟨rfl, hb⟩; replace BK218 := Aside0.mk (blk_below (bo BK218) hb); replace HB := Aside0.mk (below_step (bl HB) hb); (try clear hb); (try clear hb2); (try clear hk); (try clear hi)))
            go_ret
            exact ⟨by first | (with_reducible rfl) | (simp only [← hji4]; with_reducible rfl) | (simp only [← hji4]; done) | rfl | (simp [errW_none, errW_some] <;> rfl) | (simp only [← hji4]; first | rfl | (simp [errW_none, errW_some] <;> rfl)) | (simp [*, errW_none, errW_some] <;> rfl), bl HB⟩
          · rw [if_neg c38] at H
            exact absurd H (by simp)
        · rw [if_neg c33] at H
          exact absurd H (by simp)

end Go.Proofs.Ytbjnkhlepmocjaa.Q
