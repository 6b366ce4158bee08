-- Laid by wip/tools/hprint.py, a program of this repo, over the kit's print; not a text of print.sh.
import Derived.Test.YtkjhhiiickcebaaQ0
import Derived.Test.YtkjhhiiickcebaaQ3
import Derived.Test.YtkjhhiiickcebaaQ4
import Derived.Test.YtkjhhiiickcebaaQ5
import Derived.Test.YtkjhhiiickcebaaQ6
namespace Go.Proofs.Ytkjhhiiickcebaa.Q
open Go.RowKit Go.Proofs.Ytkjhhiiickcebaa.Zip Go.Proofs.YtkjhhiiickcebaaW.PrintWords Go.Proofs.YtkjhhiiickcebaaW.PrintLast Go.Proofs.YtkjhhiiickcebaaW.PrintMore
attribute [local go_sem] max2_int min2_int max_two min_two max_three min_three max_four min_four   -- for this text's walks alone
set_option linter.unusedVariables false
set_option linter.unusedSimpArgs false

/-! ### sandglasslaw03_live: function 11 -/
def sandglasslaw03_live.f (k : Nat)  : Option (Bool) := (hash_Mix.f 0).bind fun t102 => (if t102 = 0 then ((hash_Unmix.f 0).bind fun t103 => (if t103 = 0 then ((hash_Sum.f 0 (⟨#[]⟩ : ByteArray)).bind fun t104 => (if t104 = 0 then ((hash_Home.f k 9223372036854775808 1).bind fun t105 => (if t105 = 1 then ((hash_Home.f k 9223372036854775808 63).bind fun t106 => (if t106 = 0 then ((hash_Home.f k 9223372036854775808 0).bind fun t107 => (if t107 = 0 then ((hash_Mix.f 1).bind fun t108 => (some (t108 != 1))) else (none))) else (none))) else (none))) else (none))) else (none))) else (none))
theorem sandglasslaw03_live.mono : ∀ k, LeO (sandglasslaw03_live.f k ) (sandglasslaw03_live.f (k + 1) ) := by
  intro  k
  unfold sandglasslaw03_live.f
  repeat' first
      | (with_reducible exact hash_Home.mono _ _ _)
      | (with_reducible exact LeO.refl _)
      | (with_reducible exact LeO.none _)
      | (with_reducible refine LeO.ite ?_ ?_)
      | (with_reducible refine LeO.bind ?_ (fun _ => ?_))
      | exact hash_Home.mono _ _ _
      | exact LeO.none _
      | refine LeO.ite ?_ ?_
      | refine LeO.bind ?_ (fun _ => ?_)
set_option maxHeartbeats 8000000 in
set_option maxRecDepth 100000 in
theorem sandglasslaw03_live.calls (k : Nat)  (r : Bool) (w : World) (h : sandglasslaw03_live.f k  = some r) :
    Calls Try.prog 11 #[] w fun e w' => e = .returned (.bool r) ∧ Below w.heap.size w w' := by
  have HB := Aside0.mk (Below.refl w.heap.size w)
  have H : ((hash_Mix.f 0).bind fun t102 => (if t102 = 0 then ((hash_Unmix.f 0).bind fun t103 => (if t103 = 0 then ((hash_Sum.f 0 (⟨#[]⟩ : ByteArray)).bind fun t104 => (if t104 = 0 then ((hash_Home.f k 9223372036854775808 1).bind fun t105 => (if t105 = 1 then ((hash_Home.f k 9223372036854775808 63).bind fun t106 => (if t106 = 0 then ((hash_Home.f k 9223372036854775808 0).bind fun t107 => (if t107 = 0 then ((hash_Mix.f 1).bind fun t108 => (some (t108 != 1))) else (none))) else (none))) else (none))) else (none))) else (none))) else (none))) = some r := h
  clear h
  replace H := Option.bind_eq_some_iff.mp H
  obtain ⟨t102, A10, H⟩ := H
  have A1 := Aside0.mk A10
  clear A10
  by_cases c2 : t102 = 0
  · rw [if_pos c2] at H
    have c2b0 : (t102 == 0) = true := beq_iff_eq.mpr c2
    have c2b1 : (t102 != 0) = false := bne_eq_false_iff_eq.mpr c2
    clear c2
    replace H := Option.bind_eq_some_iff.mp H
    obtain ⟨t103, A30, H⟩ := H
    have A3 := Aside0.mk A30
    clear A30
    by_cases c4 : t103 = 0
    · rw [if_pos c4] at H
      have c4b0 : (t103 == 0) = true := beq_iff_eq.mpr c4
      have c4b1 : (t103 != 0) = false := bne_eq_false_iff_eq.mpr c4
      clear c4
      replace H := Option.bind_eq_some_iff.mp H
      obtain ⟨t104, A50, H⟩ := H
      have A5 := Aside0.mk A50
      clear A50
      by_cases c6 : t104 = 0
      · rw [if_pos c6] at H
        have c6b0 : (t104 == 0) = true := beq_iff_eq.mpr c6
        have c6b1 : (t104 != 0) = false := bne_eq_false_iff_eq.mpr c6
        clear c6
        replace H := Option.bind_eq_some_iff.mp H
        obtain ⟨t105, A70, H⟩ := H
        have A7 := Aside0.mk A70
        clear A70
        by_cases c8 : t105 = 1
        · rw [if_pos c8] at H
          have c8b0 : (t105 == 1) = true := beq_iff_eq.mpr c8
          have c8b1 : (t105 != 1) = false := bne_eq_false_iff_eq.mpr c8
          clear c8
          replace H := Option.bind_eq_some_iff.mp H
          obtain ⟨t106, A90, H⟩ := H
          have A9 := Aside0.mk A90
          clear A90
          by_cases c10 : t106 = 0
          · rw [if_pos c10] at H
            have c10b0 : (t106 == 0) = true := beq_iff_eq.mpr c10
            have c10b1 : (t106 != 0) = false := bne_eq_false_iff_eq.mpr c10
            clear c10
            replace H := Option.bind_eq_some_iff.mp H
            obtain ⟨t107, A110, H⟩ := H
            have A11 := Aside0.mk A110
            clear A110
            by_cases c12 : t107 = 0
            · rw [if_pos c12] at H
              have c12b0 : (t107 == 0) = true := beq_iff_eq.mpr c12
              have c12b1 : (t107 != 0) = false := bne_eq_false_iff_eq.mpr c12
              clear c12
              replace H := Option.bind_eq_some_iff.mp H
              obtain ⟨t108, A130, H⟩ := H
              have A13 := Aside0.mk A130
              clear A130
              obtain rfl := Option.some.inj H
              go_enter Try.func11, Try.ntmps11
              go_wp2_with (first | ((with_reducible refine gate_callee (f := 10) rfl ?_); refine goesL_ (some 1) rfl rfl Try.func10 (by kernel_rfl) rfl #[.int .u64 0] rfl (by (try simp only [List.map_toArray, List.map_cons, List.map_nil]); first | done | rfl | (simp only [List.length_drop, List.length_take]; rfl)) ?_; (with_reducible refine (hash_Mix.calls 0 t102 _ A1.out).mono ?_); rintro e w14 ⟨rfl, hb⟩; refine ⟨_, rfl, ?_⟩; replace HB := Aside0.mk (below_step (bl HB) hb); (try clear hb); (try clear hb2); (try clear hk); (try clear hi)) | (go_at_call 9; (with_reducible refine (hash_Unmix.calls 0 t103 _ A3.out).mono ?_); rintro e w15 ⟨rfl, hb⟩; replace HB := Aside0.mk (below_step (bl HB) hb); (try clear hb); (try clear hb2); (try clear hk); (try clear hi)) | (go_at_call 12; (with_reducible refine (hash_Sum.calls 0 (⟨#[]⟩ : ByteArray) t104 _ A5.out).mono ?_); rintro e w16 ⟨rfl, hb⟩; replace HB := Aside0.mk (below_step (bl HB) hb); (try clear hb); (try clear hb2); (try clear hk); (try clear hi)) | (go_at_call 13; (with_reducible refine (hash_Home.calls k 9223372036854775808 1 t105 _ A7.out).mono ?_); rintro e w' ⟨rfl, ⟨nd, rfl⟩⟩) | (go_at_call 13; (with_reducible refine (hash_Home.calls k 9223372036854775808 63 t106 _ A9.out).mono ?_); rintro e w' ⟨rfl, ⟨nd, rfl⟩⟩) | (go_at_call 13; (with_reducible refine (hash_Home.calls k 9223372036854775808 0 t107 _ A11.out).mono ?_); rintro e w' ⟨rfl, ⟨nd, rfl⟩⟩) | (go_at_call 10; (with_reducible refine (hash_Mix.calls 1 t108 _ A13.out).mono ?_); rintro e w17 ⟨rfl, hb⟩; replace HB := Aside0.mk (below_step (bl HB) hb); (try clear hb); (try clear hb2); (try clear hk); (try clear hi)))
              go_ret
              exact ⟨by first | (with_reducible rfl) | rfl | (simp [errW_none, errW_some] <;> rfl) | (simp [*, errW_none, errW_some] <;> rfl), bl HB⟩
            · rw [if_neg c12] at H
              exact absurd H (by simp)
          · rw [if_neg c10] at H
            exact absurd H (by simp)
        · rw [if_neg c8] at H
          exact absurd H (by simp)
      · rw [if_neg c6] at H
        exact absurd H (by simp)
    · rw [if_neg c4] at H
      exact absurd H (by simp)
  · rw [if_neg c2] at H
    exact absurd H (by simp)

end Go.Proofs.Ytkjhhiiickcebaa.Q
