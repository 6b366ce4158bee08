-- Laid by wip/tools/hprint.py, a program of this repo, over the kit's print; not a text of print.sh.
import Derived.Test.YtbjnkhlepmocjaaQ0
import Derived.Test.YtbjnkhlepmocjaaQ13
import Derived.Test.YtbjnkhlepmocjaaQ14
import Derived.Test.YtbjnkhlepmocjaaQ15
import Derived.Test.YtbjnkhlepmocjaaQ21
import Derived.Test.YtbjnkhlepmocjaaQ22
namespace Go.Proofs.Ytbjnkhlepmocjaa.Q
open Go.RowKit Go.Proofs.Ytbjnkhlepmocjaa.Zip Go.Proofs.YtbjnkhlepmocjaaW.PrintWords Go.Proofs.YtbjnkhlepmocjaaW.PrintLast Go.Proofs.YtbjnkhlepmocjaaW.PrintMore
attribute [local go_sem] max2_int min2_int max_two min_two max_three min_three max_four min_four   -- for this text's walks alone
set_option linter.unusedVariables false
set_option linter.unusedSimpArgs false

/-! ### sandglasslaw02_NumsTexts: function 5 -/
def sandglasslaw02_NumsTexts.f (k : Nat) (a0 : ByteArray) (a1 : Int) : Option (Bool) := if (a0.size : Int) > 600 then ((sandglasslaw02_live.f k).bind fun t178 => (some t178)) else ((nums_Put.f a0).bind fun bt179 => ((sandglassref02_Put.f a0).bind fun bt181 => ((nums_Text.f a0 a1).bind fun bt183 => ((sandglassref02_Text.f k a0 a1).bind fun bt186 => (if bt179.1.toList = bt181.1.toList then (if (bt179.2 == bt181.2) = true then (if bt183.1.toList = bt186.1.toList then (if bt183.2.1 = bt186.2.1 then (if bt183.2.2 = bt186.2.2 then ((sandglasslaw02_live.f k).bind fun t189 => (some t189)) else (none)) else (none)) else (none)) else (none)) else (none))))))
theorem sandglasslaw02_NumsTexts.mono : ∀ a0 a1 k, LeO (sandglasslaw02_NumsTexts.f k a0 a1) (sandglasslaw02_NumsTexts.f (k + 1) a0 a1) := by
  intro a0 a1 k
  unfold sandglasslaw02_NumsTexts.f
  repeat' first
      | (with_reducible exact sandglasslaw02_live.mono _)
      | (with_reducible exact sandglassref02_Text.mono _ _ _)
      | (with_reducible exact LeO.refl _)
      | (with_reducible exact LeO.none _)
      | (with_reducible refine LeO.ite ?_ ?_)
      | (with_reducible refine LeO.bind ?_ (fun _ => ?_))
      | exact sandglasslaw02_live.mono _
      | exact sandglassref02_Text.mono _ _ _
      | exact LeO.none _
      | refine LeO.ite ?_ ?_
      | refine LeO.bind ?_ (fun _ => ?_)
set_option maxHeartbeats 8000000 in
set_option maxRecDepth 100000 in
theorem sandglasslaw02_NumsTexts.calls (k : Nat) (a0 : ByteArray) (a1 : Int) (r : Bool) (w : World) (h : sandglasslaw02_NumsTexts.f k a0 a1 = some r) :
    Calls Try.prog 5 #[.string a0, .int .i64 a1] w fun e w' => e = .returned (.bool r) ∧ Below w.heap.size w w' := by
  have HB := Aside0.mk (Below.refl w.heap.size w)
  have H : (if (a0.size : Int) > 600 then ((sandglasslaw02_live.f k).bind fun t178 => (some t178)) else ((nums_Put.f a0).bind fun bt179 => ((sandglassref02_Put.f a0).bind fun bt181 => ((nums_Text.f a0 a1).bind fun bt183 => ((sandglassref02_Text.f k a0 a1).bind fun bt186 => (if bt179.1.toList = bt181.1.toList then (if (bt179.2 == bt181.2) = true then (if bt183.1.toList = bt186.1.toList then (if bt183.2.1 = bt186.2.1 then (if bt183.2.2 = bt186.2.2 then ((sandglasslaw02_live.f k).bind fun t189 => (some t189)) else (none)) else (none)) else (none)) else (none)) else (none))))))) = some r := h
  clear h
  by_cases c3 : (a0.size : Int) > 600
  · rw [if_pos c3] at H
    have c3b0 : decide (600 < (a0.size : Int)) = true := decide_eq_true c3
    have c3b1 : decide (600 < a0.size) = true := decide_eq_true (by omega)
    clear c3
    replace H := Option.bind_eq_some_iff.mp H
    obtain ⟨t178, A40, H⟩ := H
    have A4 := Aside0.mk A40
    clear A40
    obtain rfl := Option.some.inj H
    go_enter Try.func5, Try.ntmps5
    go_wp2_with (first | ((with_reducible refine gate_callee (f := 17) rfl ?_); refine goesL_ (some 18) rfl rfl Try.func17 (by kernel_rfl) rfl #[] rfl (by (try simp only [List.map_toArray, List.map_cons, List.map_nil]); first | done | rfl | (simp only [List.length_drop, List.length_take]; rfl)) ?_; (with_reducible refine (sandglasslaw02_live.calls k  t178 _ A4.out).mono ?_); rintro e w5 ⟨rfl, hb⟩; refine ⟨_, rfl, ?_⟩; replace HB := Aside0.mk (below_step (bl HB) hb); (try clear hb); (try clear hb2); (try clear hk); (try clear hi)))
    go_ret
    exact ⟨by first | (with_reducible rfl) | rfl | (simp [errW_none, errW_some] <;> rfl) | (simp [*, errW_none, errW_some] <;> rfl), bl HB⟩
  · rw [if_neg c3] at H
    have c3b0 : decide (600 < (a0.size : Int)) = false := decide_eq_false c3
    have c3b1 : decide (600 < a0.size) = false := decide_eq_false (by omega)
    clear c3
    replace H := Option.bind_eq_some_iff.mp H
    obtain ⟨⟨t179, t180⟩, A60, H⟩ := H
    have A6 := Aside0.mk A60
    clear A60
    replace H := Option.bind_eq_some_iff.mp H
    obtain ⟨⟨t181, t182⟩, A70, H⟩ := H
    have A7 := Aside0.mk A70
    clear A70
    replace H := Option.bind_eq_some_iff.mp H
    obtain ⟨⟨t183, t184, t185⟩, A80, H⟩ := H
    have A8 := Aside0.mk A80
    clear A80
    replace H := Option.bind_eq_some_iff.mp H
    obtain ⟨⟨t186, t187, t188⟩, A90, H⟩ := H
    have A9 := Aside0.mk A90
    clear A90
    by_cases c10 : t179.toList = t181.toList
    · rw [if_pos c10] at H
      have c10b0 : (t179.toList == t181.toList) = true := beq_iff_eq.mpr c10
      have c10b1 : (t179.toList != t181.toList) = false := bne_eq_false_iff_eq.mpr c10
      clear c10
      by_cases c11 : (t180 == t182) = true
      · rw [if_pos c11] at H
        have c11b0 : (t180 == t182) = true := c11
        (try (have c11b1 : decide (t180 = t182) = true := by simpa using c11))
        (try (have c11b2 : (t180 == t182) = true := by simpa using c11))
        clear c11
        by_cases c12 : t183.toList = t186.toList
        · rw [if_pos c12] at H
          have c12b0 : (t183.toList == t186.toList) = true := beq_iff_eq.mpr c12
          have c12b1 : (t183.toList != t186.toList) = false := bne_eq_false_iff_eq.mpr c12
          clear c12
          by_cases c13 : t184 = t187
          · rw [if_pos c13] at H
            have c13b0 : (t184 == t187) = true := beq_iff_eq.mpr c13
            have c13b1 : (t184 != t187) = false := bne_eq_false_iff_eq.mpr c13
            clear c13
            by_cases c14 : t185 = t188
            · rw [if_pos c14] at H
              have c14b0 : (t185 == t188) = true := beq_iff_eq.mpr c14
              have c14b1 : (t185 != t188) = false := bne_eq_false_iff_eq.mpr c14
              clear c14
              replace H := Option.bind_eq_some_iff.mp H
              obtain ⟨t189, A150, H⟩ := H
              have A15 := Aside0.mk A150
              clear A150
              obtain rfl := Option.some.inj H
              go_enter Try.func5, Try.ntmps5
              go_wp2_with (first | ((with_reducible refine gate_callee (f := 24) rfl ?_); refine goesL_ (some 21) rfl rfl Try.func24 (by kernel_rfl) rfl #[.string a0] rfl (by (try simp only [List.map_toArray, List.map_cons, List.map_nil]); first | done | rfl | (simp only [List.length_drop, List.length_take]; rfl)) ?_; (with_reducible refine (nums_Put.calls a0 t179 t180 _ A6.out).mono ?_); rintro e w16 ⟨rfl, hb⟩; refine ⟨_, rfl, ?_⟩; replace HB := Aside0.mk (below_step (bl HB) hb); (try clear hb); (try clear hb2); (try clear hk); (try clear hi)) | ((with_reducible refine gate_callee (f := 25) rfl ?_); refine goesL_ (some 26) rfl rfl Try.func25 (by kernel_rfl) rfl #[.string a0] rfl (by (try simp only [List.map_toArray, List.map_cons, List.map_nil]); first | done | rfl | (simp only [List.length_drop, List.length_take]; rfl)) ?_; (with_reducible refine (sandglassref02_Put.calls a0 t181 t182 _ A7.out).mono ?_); rintro e w17 ⟨rfl, hb⟩; refine ⟨_, rfl, ?_⟩; replace HB := Aside0.mk (below_step (bl HB) hb); (try clear hb); (try clear hb2); (try clear hk); (try clear hi)) | ((with_reducible refine gate_callee (f := 26) rfl ?_); refine goesL_ (some 32) rfl rfl Try.func26 (by kernel_rfl) rfl #[.string a0, .int .i64 a1] rfl (by (try simp only [List.map_toArray, List.map_cons, List.map_nil]); first | done | rfl | (simp only [List.length_drop, List.length_take]; rfl)) ?_; (with_reducible refine (nums_Text.calls a0 a1 t183 t184 t185 _ A8.out).mono ?_); rintro e w18 ⟨rfl, hb⟩; refine ⟨_, rfl, ?_⟩; replace HB := Aside0.mk (below_step (bl HB) hb); (try clear hb); (try clear hb2); (try clear hk); (try clear hi)) | ((with_reducible refine gate_callee (f := 27) rfl ?_); refine goesL_ (some 39) rfl rfl Try.func27 (by kernel_rfl) rfl #[.string a0, .int .i64 a1] rfl (by (try simp only [List.map_toArray, List.map_cons, List.map_nil]); first | done | rfl | (simp only [List.length_drop, List.length_take]; rfl)) ?_; (with_reducible refine (sandglassref02_Text.calls k a0 a1 t186 t187 t188 _ A9.out).mono ?_); rintro e w' ⟨rfl, ⟨nd, rfl⟩⟩; refine ⟨_, rfl, ?_⟩) | (go_at_call 17; (with_reducible refine (sandglasslaw02_live.calls k  t189 _ A15.out).mono ?_); rintro e w19 ⟨rfl, hb⟩; replace HB := Aside0.mk (below_step (bl HB) hb); (try clear hb); (try clear hb2); (try clear hk); (try clear hi)))
              go_ret
              exact ⟨by first | (with_reducible rfl) | rfl | (simp [errW_none, errW_some] <;> rfl) | (simp [*, errW_none, errW_some] <;> rfl), bl HB⟩
            · rw [if_neg c14] at H
              exact absurd H (by simp)
          · rw [if_neg c13] at H
            exact absurd H (by simp)
        · rw [if_neg c12] at H
          exact absurd H (by simp)
      · rw [if_neg c11] at H
        exact absurd H (by simp)
    · rw [if_neg c10] at H
      exact absurd H (by simp)

end Go.Proofs.Ytbjnkhlepmocjaa.Q
