-- Laid by wip/tools/hprint.py, a program of this repo, over the kit's print; not a text of print.sh.
import Derived.Test.YtkjhhiiickcebaaQ0
import Derived.Test.YtkjhhiiickcebaaQ16
import Derived.Test.YtkjhhiiickcebaaQ17
namespace Go.Proofs.Ytkjhhiiickcebaa.Q
open Go.RowKit Go.Proofs.Ytkjhhiiickcebaa.Zip Go.Proofs.YtkjhhiiickcebaaW.PrintWords Go.Proofs.YtkjhhiiickcebaaW.PrintLast Go.Proofs.YtkjhhiiickcebaaW.PrintMore
attribute [local go_sem] max2_int min2_int max_two min_two max_three min_three max_four min_four   -- for this text's walks alone
set_option linter.unusedVariables false
set_option linter.unusedSimpArgs false

/-! ### sandglassref03_Unmix: function 19 -/
def sandglassref03_Unmix.f (k : Nat) (a0 : Int) : Option (Int) := (sandglassref03_back.f k a0 32).bind fun t141 => ((sandglassref03_odd.f k 13787848793156543929).bind fun t142 => ((sandglassref03_back.f k (IntKind.u64.wrap (t141 * t142)) 29).bind fun t143 => ((sandglassref03_odd.f k 11400714819323198485).bind fun t144 => ((sandglassref03_back.f k (IntKind.u64.wrap (t143 * t144)) 32).bind fun t145 => (some t145)))))
theorem sandglassref03_Unmix.mono : ∀ a0 k, LeO (sandglassref03_Unmix.f k a0) (sandglassref03_Unmix.f (k + 1) a0) := by
  intro a0 k
  unfold sandglassref03_Unmix.f
  repeat' first
      | (with_reducible exact sandglassref03_back.mono _ _ _)
      | (with_reducible exact sandglassref03_odd.mono _ _)
      | (with_reducible exact LeO.refl _)
      | (with_reducible exact LeO.none _)
      | (with_reducible refine LeO.ite ?_ ?_)
      | (with_reducible refine LeO.bind ?_ (fun _ => ?_))
      | exact sandglassref03_back.mono _ _ _
      | exact sandglassref03_odd.mono _ _
      | exact LeO.none _
      | refine LeO.ite ?_ ?_
      | refine LeO.bind ?_ (fun _ => ?_)
set_option maxHeartbeats 8000000 in
set_option maxRecDepth 100000 in
theorem sandglassref03_Unmix.calls (k : Nat) (a0 : Int) (r : Int) (w : World) (h : sandglassref03_Unmix.f k a0 = some r) :
    Calls Try.prog 19 #[.int .u64 a0] w fun e w' => e = .returned (.int .u64 r) ∧ Drawn0 w w' := by
  have H : ((sandglassref03_back.f k a0 32).bind fun t141 => ((sandglassref03_odd.f k 13787848793156543929).bind fun t142 => ((sandglassref03_back.f k (IntKind.u64.wrap (t141 * t142)) 29).bind fun t143 => ((sandglassref03_odd.f k 11400714819323198485).bind fun t144 => ((sandglassref03_back.f k (IntKind.u64.wrap (t143 * t144)) 32).bind fun t145 => (some t145)))))) = some r := h
  clear h
  replace H := Option.bind_eq_some_iff.mp H
  obtain ⟨t141, A20, H⟩ := H
  have A2 := Aside0.mk A20
  clear A20
  replace H := Option.bind_eq_some_iff.mp H
  obtain ⟨t142, A30, H⟩ := H
  have A3 := Aside0.mk A30
  clear A30
  replace H := Option.bind_eq_some_iff.mp H
  obtain ⟨t143, A40, H⟩ := H
  have A4 := Aside0.mk A40
  clear A40
  replace H := Option.bind_eq_some_iff.mp H
  obtain ⟨t144, A50, H⟩ := H
  have A5 := Aside0.mk A50
  clear A50
  replace H := Option.bind_eq_some_iff.mp H
  obtain ⟨t145, A60, H⟩ := H
  have A6 := Aside0.mk A60
  clear A60
  obtain rfl := Option.some.inj H
  go_enter Try.func19, Try.ntmps19
  go_wp2_with (first | ((with_reducible refine gate_callee (f := 22) rfl ?_); refine goesL_ (some 4) rfl rfl Try.func22 (by kernel_rfl) rfl #[.int .u64 a0, .int .u64 32] rfl (by (try simp only [List.map_toArray, List.map_cons, List.map_nil]); first | done | rfl | (simp only [List.length_drop, List.length_take]; rfl)) ?_; (with_reducible refine (sandglassref03_back.calls k a0 32 t141 _ A2.out).mono ?_); rintro e w' ⟨rfl, ⟨nd, rfl⟩⟩; refine ⟨_, rfl, ?_⟩) | ((with_reducible refine gate_callee (f := 23) rfl ?_); refine goesL_ (some 6) rfl rfl Try.func23 (by kernel_rfl) rfl #[.int .u64 13787848793156543929] rfl (by (try simp only [List.map_toArray, List.map_cons, List.map_nil]); first | done | rfl | (simp only [List.length_drop, List.length_take]; rfl)) ?_; (with_reducible refine (sandglassref03_odd.calls k 13787848793156543929 t142 _ A3.out).mono ?_); rintro e w' ⟨rfl, ⟨nd, rfl⟩⟩; refine ⟨_, rfl, ?_⟩) | ((with_reducible refine gate_callee (f := 22) rfl ?_); refine goesL_ (some 9) rfl rfl Try.func22 (by kernel_rfl) rfl #[.int .u64 (IntKind.u64.wrap (t141 * t142)), .int .u64 29] rfl (by (try simp only [List.map_toArray, List.map_cons, List.map_nil]); first | done | rfl | (simp only [List.length_drop, List.length_take]; rfl)) ?_; (with_reducible refine (sandglassref03_back.calls k (IntKind.u64.wrap (t141 * t142)) 29 t143 _ A4.out).mono ?_); rintro e w' ⟨rfl, ⟨nd, rfl⟩⟩; refine ⟨_, rfl, ?_⟩) | ((with_reducible refine gate_callee (f := 23) rfl ?_); refine goesL_ (some 11) rfl rfl Try.func23 (by kernel_rfl) rfl #[.int .u64 11400714819323198485] rfl (by (try simp only [List.map_toArray, List.map_cons, List.map_nil]); first | done | rfl | (simp only [List.length_drop, List.length_take]; rfl)) ?_; (with_reducible refine (sandglassref03_odd.calls k 11400714819323198485 t144 _ A5.out).mono ?_); rintro e w' ⟨rfl, ⟨nd, rfl⟩⟩; refine ⟨_, rfl, ?_⟩) | ((with_reducible refine gate_callee (f := 22) rfl ?_); refine goesL_ (some 14) rfl rfl Try.func22 (by kernel_rfl) rfl #[.int .u64 (IntKind.u64.wrap (t143 * t144)), .int .u64 32] rfl (by (try simp only [List.map_toArray, List.map_cons, List.map_nil]); first | done | rfl | (simp only [List.length_drop, List.length_take]; rfl)) ?_; (with_reducible refine (sandglassref03_back.calls k (IntKind.u64.wrap (t143 * t144)) 32 t145 _ A6.out).mono ?_); rintro e w' ⟨rfl, ⟨nd, rfl⟩⟩; refine ⟨_, rfl, ?_⟩))
  go_ret
  exact ⟨by first | (with_reducible rfl) | rfl | (simp; done) | (simp [*]; done), by repeat (first | exact Drawn0.refl _ | apply Drawn0.step)⟩

end Go.Proofs.Ytkjhhiiickcebaa.Q
