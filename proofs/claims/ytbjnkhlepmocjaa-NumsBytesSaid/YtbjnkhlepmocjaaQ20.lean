-- Laid by wip/tools/hprint.py, a program of this repo, over the kit's print; not a text of print.sh.
import Derived.Test.YtbjnkhlepmocjaaQ0
import Derived.Test.YtbjnkhlepmocjaaQ10
import Derived.Test.YtbjnkhlepmocjaaQ11
import Derived.Test.YtbjnkhlepmocjaaQ12
import Derived.Test.YtbjnkhlepmocjaaQ15
import Derived.Test.YtbjnkhlepmocjaaQ17
import Derived.Test.YtbjnkhlepmocjaaQ18
import Derived.Test.YtbjnkhlepmocjaaQ19
namespace Go.Proofs.Ytbjnkhlepmocjaa.Q
open Go.RowKit Go.Proofs.Ytbjnkhlepmocjaa.Zip Go.Proofs.YtbjnkhlepmocjaaW.PrintWords Go.Proofs.YtbjnkhlepmocjaaW.PrintLast Go.Proofs.YtbjnkhlepmocjaaW.PrintMore
attribute [local go_sem] max2_int min2_int max_two min_two max_three min_three max_four min_four   -- for this text's walks alone
set_option linter.unusedVariables false
set_option linter.unusedSimpArgs false

/-! ### sandglasslaw02_NumsBytes: function 4 -/
def sandglasslaw02_NumsBytes.f (k : Nat) (a0 : Int) (a1 : ByteArray) (a2_0 : Int) (a2_1 : Int) : Option (Bool) := if (a1.size : Int) > 60 then ((sandglasslaw02_live.f k).bind fun t161 => (some t161)) else ((nums_Narrow.f a1).bind fun bt162 => ((sandglassref02_Narrow.f k a1).bind fun bt164 => ((nums_Number.f a1 a2_0 a2_1).bind fun bt166 => ((sandglassref02_Number.f k a1 a2_0 a2_1).bind fun bt169 => ((nums_Wide.f k a0 a2_1).bind fun t172 => ((sandglassref02_Wide.f k a0 a2_1).bind fun t173 => (if t172.toList = t173.toList then (if bt162.1 = bt164.1 then (if (bt162.2 == bt164.2) = true then (if bt166.1 = bt169.1 then (if bt166.2.1 = bt169.2.1 then (if bt166.2.2 = bt169.2.2 then ((sandglasslaw02_live.f k).bind fun t174 => (some t174)) else (none)) else (none)) else (none)) else (none)) else (none)) else (none))))))))
theorem sandglasslaw02_NumsBytes.mono : ∀ a0 a1 a2 a3 k, LeO (sandglasslaw02_NumsBytes.f k a0 a1 a2 a3) (sandglasslaw02_NumsBytes.f (k + 1) a0 a1 a2 a3) := by
  intro a0 a1 a2 a3 k
  unfold sandglasslaw02_NumsBytes.f
  repeat' first
      | (with_reducible exact nums_Wide.mono _ _ _)
      | (with_reducible exact sandglasslaw02_live.mono _)
      | (with_reducible exact sandglassref02_Narrow.mono _ _)
      | (with_reducible exact sandglassref02_Number.mono _ _ _ _)
      | (with_reducible exact sandglassref02_Wide.mono _ _ _)
      | (with_reducible exact LeO.refl _)
      | (with_reducible exact LeO.none _)
      | (with_reducible refine LeO.ite ?_ ?_)
      | (with_reducible refine LeO.bind ?_ (fun _ => ?_))
      | exact nums_Wide.mono _ _ _
      | exact sandglasslaw02_live.mono _
      | exact sandglassref02_Narrow.mono _ _
      | exact sandglassref02_Number.mono _ _ _ _
      | exact sandglassref02_Wide.mono _ _ _
      | exact LeO.none _
      | refine LeO.ite ?_ ?_
      | refine LeO.bind ?_ (fun _ => ?_)
def sandglasslaw02_NumsBytes.T7 : Bool × List (List Nat × List Nat) := (true, [([], []), ([], []), ([1], [1]), ([0, 2], [0, 2]), ([], []), ([], []), ([5], [5]), ([4, 6, 3], [4, 6]), ([3, 7], [3, 7]), ([8, 7], [8]), ([9], [9]), ([9], [9]), ([10, 11, 9], [9, 10, 11]), ([9, 12], [9, 12]), ([13, 9], [13]), ([14], [14]), ([14], [14]), ([15, 16, 14], [14, 15, 16]), ([14, 17], [14, 17]), ([18, 14], [18]), ([19], [19]), ([19], [19]), ([20, 21, 19], [19, 20, 21]), ([19, 22], [19, 22]), ([23, 19], [23]), ([24], [24]), ([24], [24]), ([25, 26, 24], [24, 25, 26]), ([24, 27], [24, 27]), ([28, 24], [28]), ([29], [29]), ([29], [29]), ([30, 31, 29], [29, 30, 31]), ([29, 32], [29, 32]), ([33, 29], [33]), ([34, 34], [34]), ([34, 35], [34, 35]), ([36, 35, 0, 1, 2, 3, 4, 5, 6, 7, 8, 9, 10, 11, 12, 13, 14, 15, 16, 17, 18, 19, 20, 21, 22, 23, 24, 25, 26, 27, 28, 29, 30, 31, 32, 33, 34, 35, 36], [36])])
def sandglasslaw02_NumsBytes.B7 : List Nat := [0, 0, 2, 7, 0, 0, 32, 127, 255, 511, 1023, 1023, 4095, 8191, 16383, 32767, 32767, 131071, 262143, 524287, 1048575, 1048575, 4194303, 8388607, 16777215, 33554431, 33554431, 134217727, 268435455, 536870911, 1073741823, 1073741823, 4294967295, 8589934591, 17179869183, 34359738367, 68719476735, 137438953471]
theorem sandglasslaw02_NumsBytes.tab7 : rtab .any (opsOf Try.f4 7) = sandglasslaw02_NumsBytes.T7 := by kernel_rfl
theorem sandglasslaw02_NumsBytes.bits7 : waitsOk sandglasslaw02_NumsBytes.T7.2 sandglasslaw02_NumsBytes.B7 = true := by kernel_rfl
set_option maxHeartbeats 8000000 in
set_option maxRecDepth 100000 in
theorem sandglasslaw02_NumsBytes.calls (k : Nat) (a0 : Int) (a1 : ByteArray) (a2_0 : Int) (a2_1 : Int) (r : Bool) (w : World) (h : sandglasslaw02_NumsBytes.f k a0 a1 a2_0 a2_1 = some r) :
    Calls Try.prog 4 #[.int .u64 a0, .string a1, .agg #[.int .i64 a2_0, .int .i64 a2_1]] w fun e w' => e = .returned (.bool r) ∧ Below w.heap.size w w' := by
  have hu27 := Try.underlying27
  have HB := Aside0.mk (Below.refl w.heap.size w)
  have H : (if (a1.size : Int) > 60 then ((sandglasslaw02_live.f k).bind fun t161 => (some t161)) else ((nums_Narrow.f a1).bind fun bt162 => ((sandglassref02_Narrow.f k a1).bind fun bt164 => ((nums_Number.f a1 a2_0 a2_1).bind fun bt166 => ((sandglassref02_Number.f k a1 a2_0 a2_1).bind fun bt169 => ((nums_Wide.f k a0 a2_1).bind fun t172 => ((sandglassref02_Wide.f k a0 a2_1).bind fun t173 => (if t172.toList = t173.toList then (if bt162.1 = bt164.1 then (if (bt162.2 == bt164.2) = true then (if bt166.1 = bt169.1 then (if bt166.2.1 = bt169.2.1 then (if bt166.2.2 = bt169.2.2 then ((sandglasslaw02_live.f k).bind fun t174 => (some t174)) else (none)) else (none)) else (none)) else (none)) else (none)) else (none))))))))) = some r := h
  clear h
  by_cases c4 : (a1.size : Int) > 60
  · rw [if_pos c4] at H
    have c4b0 : decide (60 < (a1.size : Int)) = true := decide_eq_true c4
    have c4b1 : decide (60 < a1.size) = true := decide_eq_true (by omega)
    clear c4
    replace H := Option.bind_eq_some_iff.mp H
    obtain ⟨t161, A50, H⟩ := H
    have A5 := Aside0.mk A50
    clear A50
    obtain rfl := Option.some.inj H
    go_enter Try.func4, Try.ntmps4
    go_wp2_with (first | ((with_reducible refine gate_dst (N := 5) rfl ?_); refine box_event ?hg (N := 5) ?hd (cs := #[.int .i64 a2_0, .int .i64 a2_1]) (t := 27) ?hr ?_; (case hd => rfl); (case hg => rfl); (case hr => first | (go_simp; done) | (go_simp; rfl)); intro gb160 hg w6 hbox hb; have BK160 := Aside0.mk (hbox); have GW160 := Aside0.mk ((by rw [hg]; exact (below_size (bl HB)) : w.heap.size ≤ gb160)); have GE160 := Aside0.mk ((by rw [hg]; exact (below_size (bl HB)) : w.heap.size ≤ gb160)); replace HB := Aside0.mk (below_step (bl HB) hb); clear hb hbox hg) | ((with_reducible refine gate_callee (f := 17) rfl ?_); refine goesL_ (some 20) rfl rfl Try.func17 (by kernel_rfl) rfl #[] rfl (by (try simp only [List.map_toArray, List.map_cons, List.map_nil]); first | done | rfl | (simp only [List.length_drop, List.length_take]; rfl)) ?_; (with_reducible refine (sandglasslaw02_live.calls k  t161 _ A5.out).mono ?_); rintro e w7 ⟨rfl, hb⟩; refine ⟨_, rfl, ?_⟩; replace BK160 := Aside0.mk (blk_below (bo BK160) hb); replace HB := Aside0.mk (below_step (bl HB) hb); (try clear hb); (try clear hb2); (try clear hk); (try clear hi)))
    go_ret
    exact ⟨by first | (with_reducible rfl) | rfl | (simp [errW_none, errW_some] <;> rfl) | (simp [*, errW_none, errW_some] <;> rfl), bl HB⟩
  · rw [if_neg c4] at H
    have c4b0 : decide (60 < (a1.size : Int)) = false := decide_eq_false c4
    have c4b1 : decide (60 < a1.size) = false := decide_eq_false (by omega)
    clear c4
    replace H := Option.bind_eq_some_iff.mp H
    obtain ⟨⟨t162, t163⟩, A80, H⟩ := H
    have A8 := Aside0.mk A80
    clear A80
    replace H := Option.bind_eq_some_iff.mp H
    obtain ⟨⟨t164, t165⟩, A90, H⟩ := H
    have A9 := Aside0.mk A90
    clear A90
    replace H := Option.bind_eq_some_iff.mp H
    obtain ⟨⟨t166, t167, t168⟩, A100, H⟩ := H
    have A10 := Aside0.mk A100
    clear A100
    replace H := Option.bind_eq_some_iff.mp H
    obtain ⟨⟨t169, t170, t171⟩, A110, H⟩ := H
    have A11 := Aside0.mk A110
    clear A110
    replace H := Option.bind_eq_some_iff.mp H
    obtain ⟨t172, A120, H⟩ := H
    have A12 := Aside0.mk A120
    clear A120
    replace H := Option.bind_eq_some_iff.mp H
    obtain ⟨t173, A130, H⟩ := H
    have A13 := Aside0.mk A130
    clear A130
    by_cases c14 : t172.toList = t173.toList
    · rw [if_pos c14] at H
      have c14b0 : (t172.toList == t173.toList) = true := beq_iff_eq.mpr c14
      have c14b1 : (t172.toList != t173.toList) = false := bne_eq_false_iff_eq.mpr c14
      clear c14
      by_cases c15 : t162 = t164
      · rw [if_pos c15] at H
        have c15b0 : (t162 == t164) = true := beq_iff_eq.mpr c15
        have c15b1 : (t162 != t164) = false := bne_eq_false_iff_eq.mpr c15
        clear c15
        by_cases c16 : (t163 == t165) = true
        · rw [if_pos c16] at H
          have c16b0 : (t163 == t165) = true := c16
          (try (have c16b1 : decide (t163 = t165) = true := by simpa using c16))
          (try (have c16b2 : (t163 == t165) = true := by simpa using c16))
          clear c16
          by_cases c17 : t166 = t169
          · rw [if_pos c17] at H
            have c17b0 : (t166 == t169) = true := beq_iff_eq.mpr c17
            have c17b1 : (t166 != t169) = false := bne_eq_false_iff_eq.mpr c17
            clear c17
            by_cases c18 : t167 = t170
            · rw [if_pos c18] at H
              have c18b0 : (t167 == t170) = true := beq_iff_eq.mpr c18
              have c18b1 : (t167 != t170) = false := bne_eq_false_iff_eq.mpr c18
              clear c18
              by_cases c19 : t168 = t171
              · rw [if_pos c19] at H
                have c19b0 : (t168 == t171) = true := beq_iff_eq.mpr c19
                have c19b1 : (t168 != t171) = false := bne_eq_false_iff_eq.mpr c19
                clear c19
                replace H := Option.bind_eq_some_iff.mp H
                obtain ⟨t174, A200, H⟩ := H
                have A20 := Aside0.mk A200
                clear A200
                obtain rfl := Option.some.inj H
                go_enter Try.func4, Try.ntmps4
                try go_wp2_with (first | ((with_reducible refine gate_dst (N := 5) rfl ?_); refine box_event ?hg (N := 5) ?hd (cs := #[.int .i64 a2_0, .int .i64 a2_1]) (t := 27) ?hr ?_; (case hd => rfl); (case hg => rfl); (case hr => first | (go_simp; done) | (go_simp; rfl)); intro gb160 hg w21 hbox hb; have BK160 := Aside0.mk (hbox); have GW160 := Aside0.mk ((by rw [hg]; exact (below_size (bl HB)) : w.heap.size ≤ gb160)); have GE160 := Aside0.mk ((by rw [hg]; exact (below_size (bl HB)) : w.heap.size ≤ gb160)); replace HB := Aside0.mk (below_step (bl HB) hb); clear hb hbox hg) | ((with_reducible refine gate_callee (f := 18) rfl ?_); refine goesL_ (some 23) rfl rfl Try.func18 (by kernel_rfl) rfl #[.string a1] rfl (by (try simp only [List.map_toArray, List.map_cons, List.map_nil]); first | done | rfl | (simp only [List.length_drop, List.length_take]; rfl)) ?_; (with_reducible refine (nums_Narrow.calls a1 t162 t163 _ A8.out).mono ?_); rintro e w22 ⟨rfl, hb⟩; refine ⟨_, rfl, ?_⟩; replace BK160 := Aside0.mk (blk_below (bo BK160) hb); replace HB := Aside0.mk (below_step (bl HB) hb); (try clear hb); (try clear hb2); (try clear hk); (try clear hi)) | ((with_reducible refine gate_callee (f := 19) rfl ?_); refine goesL_ (some 28) rfl rfl Try.func19 (by kernel_rfl) rfl #[.string a1] rfl (by (try simp only [List.map_toArray, List.map_cons, List.map_nil]); first | done | rfl | (simp only [List.length_drop, List.length_take]; rfl)) ?_; (with_reducible refine (sandglassref02_Narrow.calls k a1 t164 t165 _ A9.out).mono ?_); rintro e w' ⟨rfl, ⟨nd, rfl⟩⟩; refine ⟨_, rfl, ?_⟩; obtain ⟨hcz23_0, hcz23_1⟩ := ce2 BK160; obtain ⟨hfz23_0, hfz23_1⟩ := fr2 BK160) | ((with_reducible refine gate_callee (f := 20) rfl ?_); refine goesL_ (some 37) rfl rfl Try.func20 (by kernel_rfl) rfl #[.string a1, .int .i64 a2_0, .int .i64 a2_1] rfl (by (try simp only [List.map_toArray, List.map_cons, List.map_nil]); first | done | rfl | (simp only [List.length_drop, List.length_take]; rfl)) ?_; (with_reducible refine (nums_Number.calls a1 a2_0 a2_1 t166 t167 t168 _ A10.out).mono ?_); rintro e w24 ⟨rfl, hb⟩; refine ⟨_, rfl, ?_⟩; replace BK160 := Aside0.mk (blk_below (bo BK160) hb); replace HB := Aside0.mk (below_step (bl HB) hb); (try clear hb); (try clear hb2); (try clear hk); (try clear hi); obtain ⟨hcz25_0, hcz25_1⟩ := ce2 BK160; obtain ⟨hfz25_0, hfz25_1⟩ := fr2 BK160) | ((with_reducible refine gate_callee (f := 21) rfl ?_); refine goesL_ (some 47) rfl rfl Try.func21 (by kernel_rfl) rfl #[.string a1, .int .i64 a2_0, .int .i64 a2_1] rfl (by (try simp only [List.map_toArray, List.map_cons, List.map_nil]); first | done | rfl | (simp only [List.length_drop, List.length_take]; rfl)) ?_; (with_reducible refine (sandglassref02_Number.calls k a1 a2_0 a2_1 t169 t170 t171 _ A11.out).mono ?_); rintro e w' ⟨rfl, ⟨nd, rfl⟩⟩; refine ⟨_, rfl, ?_⟩))
                (try (rw [drewN_self w24]; generalize hq_ : World.drewN w24 _ = w24; replace BK160 : Aside0 (w24.heap[gb160]? = some (.cells #[.int .i64 a2_0, .int .i64 a2_1] 27 (0, 0))) := ⟨by rw [← hq_]; exact (bo BK160)⟩; replace HB : Aside0 (Below w.heap.size w w24) := ⟨by rw [← hq_]; exact (bl HB)⟩; clear hq_))
                replace BK160 := Aside0.mk (blk_drew BK160.out)
                replace HB := Aside0.mk (below_drew1 HB.out)
                refine start_ (n := 38) (S := fun w' => w'.cell? ⟨gb160, 0, none⟩ = some (.int .i64 a2_0) ∧ w'.cell? ⟨gb160, 1, none⟩ = some (.int .i64 a2_1)) (ds := []) #[false, false, false, false, false, false, false, false, false, false, false, false, false, false, false, false, false, false, false, false, false, false, false, false, false, false, false, false, false, false, false, false, false, false, false, false, false, false] (by kernel_rfl) rfl rfl ⟨(blk_cell BK160.out 0).trans rfl, (blk_cell BK160.out 1).trans rfl⟩ (fun hHeld => ?_); refine with_tabW sandglasslaw02_NumsBytes.tab7 sandglasslaw02_NumsBytes.bits7 (fun HT_ HW_ => ?_)
                generalize w24.drew = w26 at BK160 HB hHeld ⊢
                refine pureA 0 51 HT_ ?_
                refine pureA 1 52 HT_ ?_
                refine pureA 4 55 HT_ ?_
                refine pureA 5 56 HT_ ?_
                refine takeA 2 53 HT_ HW_ hHeld ?_
                refine takeA 6 57 HT_ HW_ hHeld ?_
                refine one_ (i := 3) (N := some 54) #[true, true, true, true, true, true, true, false, false, false, false, false, false, false, false, false, false, false, false, false, false, false, false, false, false, false, false, false, false, false, false, false, false, false, false, false, false, false] rfl rfl (one_of HT_.out (by kernel_rfl)) (by decide) (fun K hK => ?_)
                refine goes_ Try.func22 (by kernel_rfl) rfl #[.int .u64 a0, .int .i64 a2_1] (by rfl) rfl rfl (by (try simp only [List.map_toArray, List.map_cons, List.map_nil]); first | done | rfl | (simp only [List.length_drop, List.length_take]; rfl)) ?_
                with_reducible refine (nums_Wide.calls k a0 a2_1 t172 _ A12.out).mono ?_
                rintro e w27 ⟨rfl, hb⟩
                refine ⟨_, rfl, ?_⟩
                replace BK160 := Aside0.mk (blk_below (bo BK160) hb)
                replace HB := Aside0.mk (below_step (bl HB) hb)
                (try clear hb)
                (try clear hb2)
                (try clear hk)
                (try clear hi)
                refine hK.out _ _ ⟨(blk_cell BK160.out 0).trans rfl, (blk_cell BK160.out 1).trans rfl⟩ (fun hHeld => ?_)
                clear hK K
                refine norm_ (a' := ?_) ?_ ?_
                rotate_left
                · show Act.put _ (some 54) _ = _
                  simp only [Act.put, List.setIfInBounds_toArray, List.set_cons_zero, List.set_cons_succ, i64_w, i32_w]
                  rfl
                refine one_ (i := 7) (N := some 58) #[true, true, true, true, true, true, true, true, false, false, false, false, false, false, false, false, false, false, false, false, false, false, false, false, false, false, false, false, false, false, false, false, false, false, false, false, false, false] rfl rfl (one_of HT_.out (by kernel_rfl)) (by decide) (fun K hK => ?_)
                refine goes_ Try.func23 (by kernel_rfl) rfl #[.int .u64 a0, .int .i64 a2_1] (by rfl) rfl rfl (by (try simp only [List.map_toArray, List.map_cons, List.map_nil]); first | done | rfl | (simp only [List.length_drop, List.length_take]; rfl)) ?_
                with_reducible refine (sandglassref02_Wide.calls k a0 a2_1 t173 _ A13.out).mono ?_
                rintro e w28 ⟨rfl, hb⟩
                refine ⟨_, rfl, ?_⟩
                replace BK160 := Aside0.mk (blk_below (bo BK160) hb)
                replace HB := Aside0.mk (below_step (bl HB) hb)
                (try clear hb)
                (try clear hb2)
                (try clear hk)
                (try clear hi)
                refine hK.out _ _ ⟨(blk_cell BK160.out 0).trans rfl, (blk_cell BK160.out 1).trans rfl⟩ (fun hHeld => ?_)
                clear hK K
                refine norm_ (a' := ?_) ?_ ?_
                rotate_left
                · show Act.put _ (some 58) _ = _
                  simp only [Act.put, List.setIfInBounds_toArray, List.set_cons_zero, List.set_cons_succ, i64_w, i32_w]
                  rfl
                refine pureA 8 59 HT_ ?_
                refine pureA 9 60 HT_ ?_
                refine pureA 10 61 HT_ ?_
                refine pureA 11 62 HT_ ?_
                refine pureA 12 63 HT_ ?_
                refine pureA 13 64 HT_ ?_
                refine pureA 14 65 HT_ ?_
                refine pureA 15 66 HT_ ?_
                refine pureA 16 67 HT_ ?_
                refine pureA 17 68 HT_ ?_
                refine pureA 18 69 HT_ ?_
                refine pureA 19 70 HT_ ?_
                refine pureA 20 71 HT_ ?_
                refine pureA 21 72 HT_ ?_
                refine pureA 22 73 HT_ ?_
                refine pureA 23 74 HT_ ?_
                refine pureA 24 75 HT_ ?_
                refine pureA 25 76 HT_ ?_
                refine pureA 26 77 HT_ ?_
                refine pureA 27 78 HT_ ?_
                refine pureA 28 79 HT_ ?_
                refine pureA 29 80 HT_ ?_
                refine pureA 30 81 HT_ ?_
                refine pureA 31 82 HT_ ?_
                refine pureA 32 83 HT_ ?_
                refine pureA 33 84 HT_ ?_
                refine pureA 34 85 HT_ ?_
                refine one_ (i := 35) (N := some 86) #[true, true, true, true, true, true, true, true, true, true, true, true, true, true, true, true, true, true, true, true, true, true, true, true, true, true, true, true, true, true, true, true, true, true, true, true, false, false] rfl rfl (one_of HT_.out (by kernel_rfl)) (by decide) (fun K hK => ?_)
                refine goes_ Try.func17 (by kernel_rfl) rfl #[] (by rfl) rfl rfl (by (try simp only [List.map_toArray, List.map_cons, List.map_nil]); first | done | rfl | (simp only [List.length_drop, List.length_take]; rfl)) ?_
                with_reducible refine (sandglasslaw02_live.calls k  t174 _ A20.out).mono ?_
                rintro e w29 ⟨rfl, hb⟩
                refine ⟨_, rfl, ?_⟩
                replace BK160 := Aside0.mk (blk_below (bo BK160) hb)
                replace HB := Aside0.mk (below_step (bl HB) hb)
                (try clear hb)
                (try clear hb2)
                (try clear hk)
                (try clear hi)
                refine hK.out _ _ ⟨(blk_cell BK160.out 0).trans rfl, (blk_cell BK160.out 1).trans rfl⟩ (fun hHeld => ?_)
                clear hK K
                refine norm_ (a' := ?_) ?_ ?_
                rotate_left
                · show Act.put _ (some 86) _ = _
                  simp only [Act.put, List.setIfInBounds_toArray, List.set_cons_zero, List.set_cons_succ, i64_w, i32_w]
                  rfl
                refine pureA 36 87 HT_ ?_
                refine pureA 37 6 HT_ ?_
                refine done_ (done_of HT_.out (by kernel_rfl)) ?_
                try go_wp2
                go_ret
                exact ⟨by first | (with_reducible rfl) | rfl | (simp [errW_none, errW_some] <;> rfl) | (simp [*, errW_none, errW_some] <;> rfl), bl HB⟩
              · rw [if_neg c19] at H
                exact absurd H (by simp)
            · rw [if_neg c18] at H
              exact absurd H (by simp)
          · rw [if_neg c17] at H
            exact absurd H (by simp)
        · rw [if_neg c16] at H
          exact absurd H (by simp)
      · rw [if_neg c15] at H
        exact absurd H (by simp)
    · rw [if_neg c14] at H
      exact absurd H (by simp)

end Go.Proofs.Ytbjnkhlepmocjaa.Q
