-- Laid by wip/tools/hprint.py, a program of this repo, over the kit's print; not a text of print.sh.
import Derived.Test.YtkjhhiiickcebaaQ0
import Derived.Test.YtkjhhiiickcebaaQ11
import Derived.Test.YtkjhhiiickcebaaQ12
namespace Go.Proofs.Ytkjhhiiickcebaa.Q
open Go.RowKit Go.Proofs.Ytkjhhiiickcebaa.Zip Go.Proofs.YtkjhhiiickcebaaW.PrintWords Go.Proofs.YtkjhhiiickcebaaW.PrintLast Go.Proofs.YtkjhhiiickcebaaW.PrintMore
attribute [local go_sem] max2_int min2_int max_two min_two max_three min_three max_four min_four   -- for this text's walks alone
set_option linter.unusedVariables false
set_option linter.unusedSimpArgs false

/-! ### sandglassref03_Name: function 16 -/
def sandglassref03_Name.f (k : Nat) (a0 : Int) (a1 : Int) (a2 : ByteArray) : Option (Int) := (sandglassref03_Mix.f (Go.bits .xor .u64 a0 (IntKind.u64.wrap (a1)))).bind fun t139 => ((sandglassref03_Sum.f k t139 a2).bind fun t140 => (some t140))
theorem sandglassref03_Name.mono : ∀ a0 a1 a2 k, LeO (sandglassref03_Name.f k a0 a1 a2) (sandglassref03_Name.f (k + 1) a0 a1 a2) := by
  intro a0 a1 a2 k
  unfold sandglassref03_Name.f
  repeat' first
      | (with_reducible exact sandglassref03_Sum.mono _ _ _)
      | (with_reducible exact LeO.refl _)
      | (with_reducible exact LeO.none _)
      | (with_reducible refine LeO.ite ?_ ?_)
      | (with_reducible refine LeO.bind ?_ (fun _ => ?_))
      | exact sandglassref03_Sum.mono _ _ _
      | exact LeO.none _
      | refine LeO.ite ?_ ?_
      | refine LeO.bind ?_ (fun _ => ?_)
set_option maxHeartbeats 8000000 in
set_option maxRecDepth 100000 in
theorem sandglassref03_Name.calls (k : Nat) (a0 : Int) (a1 : Int) (a2 : ByteArray) (r : Int) (w : World) (h : sandglassref03_Name.f k a0 a1 a2 = some r) :
    Calls Try.prog 16 #[.int .u64 a0, .int .i64 a1, .string a2] w fun e w' => e = .returned (.int .u64 r) ∧ Drawn0 w w' := by
  have H : ((sandglassref03_Mix.f (Go.bits .xor .u64 a0 (IntKind.u64.wrap (a1)))).bind fun t139 => ((sandglassref03_Sum.f k t139 a2).bind fun t140 => (some t140))) = some r := h
  clear h
  replace H := Option.bind_eq_some_iff.mp H
  obtain ⟨t139, A40, H⟩ := H
  have A4 := Aside0.mk A40
  clear A40
  replace H := Option.bind_eq_some_iff.mp H
  obtain ⟨t140, A50, H⟩ := H
  have A5 := Aside0.mk A50
  clear A50
  obtain rfl := Option.some.inj H
  go_enter Try.func16, Try.ntmps16
  go_wp2_with (first | ((with_reducible refine gate_callee (f := 18) rfl ?_); refine goesL_ (some 11) rfl rfl Try.func18 (by kernel_rfl) rfl #[.int .u64 (Go.bits .xor .u64 a0 (IntKind.u64.wrap (a1)))] rfl (by (try simp only [List.map_toArray, List.map_cons, List.map_nil]); first | done | rfl | (simp only [List.length_drop, List.length_take]; rfl)) ?_; (with_reducible refine (sandglassref03_Mix.calls (Go.bits .xor .u64 a0 (IntKind.u64.wrap (a1))) t139 _ A4.out).mono ?_); rintro e w' ⟨rfl, ⟨nd, rfl⟩⟩; refine ⟨_, rfl, ?_⟩) | ((with_reducible refine gate_callee (f := 14) rfl ?_); refine goesL_ (some 13) rfl rfl Try.func14 (by kernel_rfl) rfl #[.int .u64 t139, .string a2] rfl (by (try simp only [List.map_toArray, List.map_cons, List.map_nil]); first | done | rfl | (simp only [List.length_drop, List.length_take]; rfl)) ?_; (with_reducible refine (sandglassref03_Sum.calls k t139 a2 t140 _ A5.out).mono ?_); rintro e w' ⟨rfl, ⟨nd, rfl⟩⟩; refine ⟨_, rfl, ?_⟩))
  go_ret
  exact ⟨by first | (with_reducible rfl) | rfl | (simp; done) | (simp [*]; done), by repeat (first | exact Drawn0.refl _ | apply Drawn0.step)⟩

end Go.Proofs.Ytkjhhiiickcebaa.Q
