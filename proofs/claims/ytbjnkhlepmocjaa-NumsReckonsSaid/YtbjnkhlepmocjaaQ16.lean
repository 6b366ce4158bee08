-- Laid by wip/tools/hprint.py, a program of this repo, over the kit's print; not a text of print.sh.
import Derived.Test.YtbjnkhlepmocjaaQ0
import Derived.Test.YtbjnkhlepmocjaaQ1
import Derived.Test.YtbjnkhlepmocjaaQ2
import Derived.Test.YtbjnkhlepmocjaaQ4
import Derived.Test.YtbjnkhlepmocjaaQ5
import Derived.Test.YtbjnkhlepmocjaaQ6
import Derived.Test.YtbjnkhlepmocjaaQ7
import Derived.Test.YtbjnkhlepmocjaaQ8
import Derived.Test.YtbjnkhlepmocjaaQ9
import Derived.Test.YtbjnkhlepmocjaaQ15
namespace Go.Proofs.Ytbjnkhlepmocjaa.Q
open Go.RowKit Go.Proofs.Ytbjnkhlepmocjaa.Zip Go.Proofs.YtbjnkhlepmocjaaW.PrintWords Go.Proofs.YtbjnkhlepmocjaaW.PrintLast Go.Proofs.YtbjnkhlepmocjaaW.PrintMore
attribute [local go_sem] max2_int min2_int max_two min_two max_three min_three max_four min_four   -- for this text's walks alone
set_option linter.unusedVariables false
set_option linter.unusedSimpArgs false

/-! ### sandglasslaw02_NumsReckons: function 3 -/
def sandglasslaw02_NumsReckons.f (k : Nat) (a0 : Int) (a1 : Int) (a2 : Int) : Option (Bool) := (nums_Add.f a0 a1 a2).bind fun t145 => ((sandglassref02_Add.f k a0 a1 a2).bind fun t146 => (if t145 = t146 then ((nums_Mul.f k a0 a1 a2).bind fun t147 => ((sandglassref02_Mul.f k a0 a1 a2).bind fun t148 => (if t147 = t148 then ((nums_Sub.f a0 a1).bind fun t149 => ((sandglassref02_Sub.f a0 a1).bind fun t150 => (if t149 = t150 then ((nums_Up.f a0 a1).bind fun t151 => ((sandglassref02_Up.f a0 a1).bind fun t152 => (if t151 = t152 then ((sandglasslaw02_live.f k).bind fun t153 => (some t153)) else (none)))) else (none)))) else (none)))) else (none)))
theorem sandglasslaw02_NumsReckons.mono : ∀ a0 a1 a2 k, LeO (sandglasslaw02_NumsReckons.f k a0 a1 a2) (sandglasslaw02_NumsReckons.f (k + 1) a0 a1 a2) := by
  intro a0 a1 a2 k
  unfold sandglasslaw02_NumsReckons.f
  repeat' first
      | (with_reducible exact nums_Mul.mono _ _ _ _)
      | (with_reducible exact sandglasslaw02_live.mono _)
      | (with_reducible exact sandglassref02_Add.mono _ _ _ _)
      | (with_reducible exact sandglassref02_Mul.mono _ _ _ _)
      | (with_reducible exact LeO.refl _)
      | (with_reducible exact LeO.none _)
      | (with_reducible refine LeO.ite ?_ ?_)
      | (with_reducible refine LeO.bind ?_ (fun _ => ?_))
      | exact nums_Mul.mono _ _ _ _
      | exact sandglasslaw02_live.mono _
      | exact sandglassref02_Add.mono _ _ _ _
      | exact sandglassref02_Mul.mono _ _ _ _
      | exact LeO.none _
      | refine LeO.ite ?_ ?_
      | refine LeO.bind ?_ (fun _ => ?_)
set_option maxHeartbeats 8000000 in
set_option maxRecDepth 100000 in
theorem sandglasslaw02_NumsReckons.calls (k : Nat) (a0 : Int) (a1 : Int) (a2 : Int) (r : Bool) (w : World) (h : sandglasslaw02_NumsReckons.f k a0 a1 a2 = some r) :
    Calls Try.prog 3 #[.int .u64 a0, .int .u64 a1, .int .u64 a2] w fun e w' => e = .returned (.bool r) ∧ Below w.heap.size w w' := by
  have HB := Aside0.mk (Below.refl w.heap.size w)
  have H : ((nums_Add.f a0 a1 a2).bind fun t145 => ((sandglassref02_Add.f k a0 a1 a2).bind fun t146 => (if t145 = t146 then ((nums_Mul.f k a0 a1 a2).bind fun t147 => ((sandglassref02_Mul.f k a0 a1 a2).bind fun t148 => (if t147 = t148 then ((nums_Sub.f a0 a1).bind fun t149 => ((sandglassref02_Sub.f a0 a1).bind fun t150 => (if t149 = t150 then ((nums_Up.f a0 a1).bind fun t151 => ((sandglassref02_Up.f a0 a1).bind fun t152 => (if t151 = t152 then ((sandglasslaw02_live.f k).bind fun t153 => (some t153)) else (none)))) else (none)))) else (none)))) else (none)))) = some r := h
  clear h
  replace H := Option.bind_eq_some_iff.mp H
  obtain ⟨t145, A40, H⟩ := H
  have A4 := Aside0.mk A40
  clear A40
  replace H := Option.bind_eq_some_iff.mp H
  obtain ⟨t146, A50, H⟩ := H
  have A5 := Aside0.mk A50
  clear A50
  by_cases c6 : t145 = t146
  · rw [if_pos c6] at H
    have c6b0 : (t145 == t146) = true := beq_iff_eq.mpr c6
    have c6b1 : (t145 != t146) = false := bne_eq_false_iff_eq.mpr c6
    clear c6
    replace H := Option.bind_eq_some_iff.mp H
    obtain ⟨t147, A70, H⟩ := H
    have A7 := Aside0.mk A70
    clear A70
    replace H := Option.bind_eq_some_iff.mp H
    obtain ⟨t148, A80, H⟩ := H
    have A8 := Aside0.mk A80
    clear A80
    by_cases c9 : t147 = t148
    · rw [if_pos c9] at H
      have c9b0 : (t147 == t148) = true := beq_iff_eq.mpr c9
      have c9b1 : (t147 != t148) = false := bne_eq_false_iff_eq.mpr c9
      clear c9
      replace H := Option.bind_eq_some_iff.mp H
      obtain ⟨t149, A100, H⟩ := H
      have A10 := Aside0.mk A100
      clear A100
      replace H := Option.bind_eq_some_iff.mp H
      obtain ⟨t150, A110, H⟩ := H
      have A11 := Aside0.mk A110
      clear A110
      by_cases c12 : t149 = t150
      · rw [if_pos c12] at H
        have c12b0 : (t149 == t150) = true := beq_iff_eq.mpr c12
        have c12b1 : (t149 != t150) = false := bne_eq_false_iff_eq.mpr c12
        clear c12
        replace H := Option.bind_eq_some_iff.mp H
        obtain ⟨t151, A130, H⟩ := H
        have A13 := Aside0.mk A130
        clear A130
        replace H := Option.bind_eq_some_iff.mp H
        obtain ⟨t152, A140, H⟩ := H
        have A14 := Aside0.mk A140
        clear A140
        by_cases c15 : t151 = t152
        · rw [if_pos c15] at H
          have c15b0 : (t151 == t152) = true := beq_iff_eq.mpr c15
          have c15b1 : (t151 != t152) = false := bne_eq_false_iff_eq.mpr c15
          clear c15
          replace H := Option.bind_eq_some_iff.mp H
          obtain ⟨t153, A160, H⟩ := H
          have A16 := Aside0.mk A160
          clear A160
          obtain rfl := Option.some.inj H
          go_enter Try.func3, Try.ntmps3
          go_wp2_with (first | ((with_reducible refine gate_callee (f := 9) rfl ?_); refine goesL_ (some 10) rfl rfl Try.func9 (by kernel_rfl) rfl #[.int .u64 a0, .int .u64 a1, .int .u64 a2] rfl (by (try simp only [List.map_toArray, List.map_cons, List.map_nil]); first | done | rfl | (simp only [List.length_drop, List.length_take]; rfl)) ?_; (with_reducible refine (nums_Add.calls a0 a1 a2 t145 _ A4.out).mono ?_); rintro e w17 ⟨rfl, hb⟩; refine ⟨_, rfl, ?_⟩; replace HB := Aside0.mk (below_step (bl HB) hb); (try clear hb); (try clear hb2); (try clear hk); (try clear hi)) | ((with_reducible refine gate_callee (f := 10) rfl ?_); refine goesL_ (some 14) rfl rfl Try.func10 (by kernel_rfl) rfl #[.int .u64 a0, .int .u64 a1, .int .u64 a2] rfl (by (try simp only [List.map_toArray, List.map_cons, List.map_nil]); first | done | rfl | (simp only [List.length_drop, List.length_take]; rfl)) ?_; (with_reducible refine (sandglassref02_Add.calls k a0 a1 a2 t146 _ A5.out).mono ?_); rintro e w' ⟨rfl, ⟨nd, rfl⟩⟩; refine ⟨_, rfl, ?_⟩) | (go_at_call 11; (with_reducible refine (nums_Mul.calls k a0 a1 a2 t147 _ A7.out).mono ?_); rintro e w18 ⟨rfl, hb⟩; replace HB := Aside0.mk (below_step (bl HB) hb); (try clear hb); (try clear hb2); (try clear hk); (try clear hi)) | (go_at_call 12; (with_reducible refine (sandglassref02_Mul.calls k a0 a1 a2 t148 _ A8.out).mono ?_); rintro e w' ⟨rfl, ⟨nd, rfl⟩⟩) | (go_at_call 13; (with_reducible refine (nums_Sub.calls a0 a1 t149 _ A10.out).mono ?_); rintro e w19 ⟨rfl, hb⟩; replace HB := Aside0.mk (below_step (bl HB) hb); (try clear hb); (try clear hb2); (try clear hk); (try clear hi)) | (go_at_call 14; (with_reducible refine (sandglassref02_Sub.calls a0 a1 t150 _ A11.out).mono ?_); rintro e w' ⟨rfl, ⟨nd, rfl⟩⟩) | (go_at_call 15; (with_reducible refine (nums_Up.calls a0 a1 t151 _ A13.out).mono ?_); rintro e w20 ⟨rfl, hb⟩; replace HB := Aside0.mk (below_step (bl HB) hb); (try clear hb); (try clear hb2); (try clear hk); (try clear hi)) | (go_at_call 16; (with_reducible refine (sandglassref02_Up.calls a0 a1 t152 _ A14.out).mono ?_); rintro e w' ⟨rfl, ⟨nd, rfl⟩⟩) | (go_at_call 17; (with_reducible refine (sandglasslaw02_live.calls k  t153 _ A16.out).mono ?_); rintro e w21 ⟨rfl, hb⟩; replace HB := Aside0.mk (below_step (bl HB) hb); (try clear hb); (try clear hb2); (try clear hk); (try clear hi)))
          go_ret
          exact ⟨by first | (with_reducible rfl) | rfl | (simp [errW_none, errW_some] <;> rfl) | (simp [*, errW_none, errW_some] <;> rfl), bl HB⟩
        · rw [if_neg c15] at H
          exact absurd H (by simp)
      · rw [if_neg c12] at H
        exact absurd H (by simp)
    · rw [if_neg c9] at H
      exact absurd H (by simp)
  · rw [if_neg c6] at H
    exact absurd H (by simp)

end Go.Proofs.Ytbjnkhlepmocjaa.Q
