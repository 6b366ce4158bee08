-- Laid by wip/tools/hprint.py, a program of this repo, over the kit's print; not a text of print.sh.
import Derived.Test.YtkjhhiiickcebaaQ0
import Derived.Test.YtkjhhiiickcebaaQ3
import Derived.Test.YtkjhhiiickcebaaQ4
import Derived.Test.YtkjhhiiickcebaaQ7
namespace Go.Proofs.Ytkjhhiiickcebaa.Q
open Go.RowKit Go.Proofs.Ytkjhhiiickcebaa.Zip Go.Proofs.YtkjhhiiickcebaaW.PrintWords Go.Proofs.YtkjhhiiickcebaaW.PrintLast Go.Proofs.YtkjhhiiickcebaaW.PrintMore
attribute [local go_sem] max2_int min2_int max_two min_two max_three min_three max_four min_four   -- for this text's walks alone
set_option linter.unusedVariables false
set_option linter.unusedSimpArgs false

/-! ### sandglasslaw03_HashBack: function 3 -/
def sandglasslaw03_HashBack.f (k : Nat) (a0 : Int) (a1 : Int) : Option (Bool) := (hash_Mix.f a0).bind fun t109 => ((hash_Unmix.f t109).bind fun t110 => (if t110 = a0 then ((hash_Unmix.f a0).bind fun t111 => ((hash_Mix.f t111).bind fun t112 => (if t112 = a0 then ((hash_Mix.f a0).bind fun t113 => ((hash_Mix.f a1).bind fun t114 => (if ((t113 == t114) == (a0 == a1)) = true then ((sandglasslaw03_live.f k).bind fun t115 => (some t115)) else (none)))) else (none)))) else (none)))
theorem sandglasslaw03_HashBack.mono : ∀ a0 a1 k, LeO (sandglasslaw03_HashBack.f k a0 a1) (sandglasslaw03_HashBack.f (k + 1) a0 a1) := by
  intro a0 a1 k
  unfold sandglasslaw03_HashBack.f
  repeat' first
      | (with_reducible exact sandglasslaw03_live.mono _)
      | (with_reducible exact LeO.refl _)
      | (with_reducible exact LeO.none _)
      | (with_reducible refine LeO.ite ?_ ?_)
      | (with_reducible refine LeO.bind ?_ (fun _ => ?_))
      | exact sandglasslaw03_live.mono _
      | exact LeO.none _
      | refine LeO.ite ?_ ?_
      | refine LeO.bind ?_ (fun _ => ?_)
set_option maxHeartbeats 8000000 in
set_option maxRecDepth 100000 in
theorem sandglasslaw03_HashBack.calls (k : Nat) (a0 : Int) (a1 : Int) (r : Bool) (w : World) (h : sandglasslaw03_HashBack.f k a0 a1 = some r) :
    Calls Try.prog 3 #[.int .u64 a0, .int .u64 a1] w fun e w' => e = .returned (.bool r) ∧ Below w.heap.size w w' := by
  have HB := Aside0.mk (Below.refl w.heap.size w)
  have H : ((hash_Mix.f a0).bind fun t109 => ((hash_Unmix.f t109).bind fun t110 => (if t110 = a0 then ((hash_Unmix.f a0).bind fun t111 => ((hash_Mix.f t111).bind fun t112 => (if t112 = a0 then ((hash_Mix.f a0).bind fun t113 => ((hash_Mix.f a1).bind fun t114 => (if ((t113 == t114) == (a0 == a1)) = true then ((sandglasslaw03_live.f k).bind fun t115 => (some t115)) else (none)))) else (none)))) else (none)))) = some r := h
  clear h
  replace H := Option.bind_eq_some_iff.mp H
  obtain ⟨t109, A30, H⟩ := H
  have A3 := Aside0.mk A30
  clear A30
  replace H := Option.bind_eq_some_iff.mp H
  obtain ⟨t110, A40, H⟩ := H
  have A4 := Aside0.mk A40
  clear A40
  by_cases c5 : t110 = a0
  · rw [if_pos c5] at H
    have c5b0 : (t110 == a0) = true := beq_iff_eq.mpr c5
    have c5b1 : (t110 != a0) = false := bne_eq_false_iff_eq.mpr c5
    clear c5
    replace H := Option.bind_eq_some_iff.mp H
    obtain ⟨t111, A60, H⟩ := H
    have A6 := Aside0.mk A60
    clear A60
    replace H := Option.bind_eq_some_iff.mp H
    obtain ⟨t112, A70, H⟩ := H
    have A7 := Aside0.mk A70
    clear A70
    by_cases c8 : t112 = a0
    · rw [if_pos c8] at H
      have c8b0 : (t112 == a0) = true := beq_iff_eq.mpr c8
      have c8b1 : (t112 != a0) = false := bne_eq_false_iff_eq.mpr c8
      clear c8
      replace H := Option.bind_eq_some_iff.mp H
      obtain ⟨t113, A90, H⟩ := H
      have A9 := Aside0.mk A90
      clear A90
      replace H := Option.bind_eq_some_iff.mp H
      obtain ⟨t114, A100, H⟩ := H
      have A10 := Aside0.mk A100
      clear A100
      by_cases c11 : ((t113 == t114) == (a0 == a1)) = true
      · rw [if_pos c11] at H
        have c11b0 : ((t113 == t114) == (a0 == a1)) = true := c11
        (try (have c11b1 : decide ((t113 == t114) = (a0 == a1)) = true := by simpa using c11))
        (try (have c11b2 : ((t113 == t114) == (a0 == a1)) = true := by simpa using c11))
        clear c11
        replace H := Option.bind_eq_some_iff.mp H
        obtain ⟨t115, A120, H⟩ := H
        have A12 := Aside0.mk A120
        clear A120
        obtain rfl := Option.some.inj H
        go_enter Try.func3, Try.ntmps3
        go_wp2_with (first | ((with_reducible refine gate_callee (f := 10) rfl ?_); refine goesL_ (some 6) rfl rfl Try.func10 (by kernel_rfl) rfl #[.int .u64 a0] rfl (by (try simp only [List.map_toArray, List.map_cons, List.map_nil]); first | done | rfl | (simp only [List.length_drop, List.length_take]; rfl)) ?_; (with_reducible refine (hash_Mix.calls a0 t109 _ A3.out).mono ?_); rintro e w13 ⟨rfl, hb⟩; refine ⟨_, rfl, ?_⟩; replace HB := Aside0.mk (below_step (bl HB) hb); (try clear hb); (try clear hb2); (try clear hk); (try clear hi)) | ((with_reducible refine gate_callee (f := 9) rfl ?_); refine goesL_ (some 7) rfl rfl Try.func9 (by kernel_rfl) rfl #[.int .u64 t109] rfl (by (try simp only [List.map_toArray, List.map_cons, List.map_nil]); first | done | rfl | (simp only [List.length_drop, List.length_take]; rfl)) ?_; (with_reducible refine (hash_Unmix.calls t109 t110 _ A4.out).mono ?_); rintro e w14 ⟨rfl, hb⟩; refine ⟨_, rfl, ?_⟩; replace HB := Aside0.mk (below_step (bl HB) hb); (try clear hb); (try clear hb2); (try clear hk); (try clear hi)) | (go_at_call 9; (with_reducible refine (hash_Unmix.calls a0 t111 _ A6.out).mono ?_); rintro e w15 ⟨rfl, hb⟩; replace HB := Aside0.mk (below_step (bl HB) hb); (try clear hb); (try clear hb2); (try clear hk); (try clear hi)) | (go_at_call 10; (with_reducible refine (hash_Mix.calls t111 t112 _ A7.out).mono ?_); rintro e w16 ⟨rfl, hb⟩; replace HB := Aside0.mk (below_step (bl HB) hb); (try clear hb); (try clear hb2); (try clear hk); (try clear hi)) | (go_at_call 10; (with_reducible refine (hash_Mix.calls a0 t113 _ A9.out).mono ?_); rintro e w17 ⟨rfl, hb⟩; replace HB := Aside0.mk (below_step (bl HB) hb); (try clear hb); (try clear hb2); (try clear hk); (try clear hi)) | (go_at_call 10; (with_reducible refine (hash_Mix.calls a1 t114 _ A10.out).mono ?_); rintro e w18 ⟨rfl, hb⟩; replace HB := Aside0.mk (below_step (bl HB) hb); (try clear hb); (try clear hb2); (try clear hk); (try clear hi)) | (go_at_call 11; (with_reducible refine (sandglasslaw03_live.calls k  t115 _ A12.out).mono ?_); rintro e w19 ⟨rfl, hb⟩; replace HB := Aside0.mk (below_step (bl HB) hb); (try clear hb); (try clear hb2); (try clear hk); (try clear hi)))
        go_ret
        exact ⟨by first | (with_reducible rfl) | rfl | (simp [errW_none, errW_some] <;> rfl) | (simp [*, errW_none, errW_some] <;> rfl), bl HB⟩
      · rw [if_neg c11] at H
        exact absurd H (by simp)
    · rw [if_neg c8] at H
      exact absurd H (by simp)
  · rw [if_neg c5] at H
    exact absurd H (by simp)

end Go.Proofs.Ytkjhhiiickcebaa.Q
