/- The statement HashNames: whatever the input, the law's function returns true and leaves its arguments as they were. No further condition. -/
import Derived.Test.YtkjhhiiickcebaaRows
import Derived.Test.YtkjhhiiickcebaaQ21
import Derived.Test.YtkjhhiiickcebaaOpen
import Derived.Test.YtkjhhiiickcebaaPuHashNames
import Derived.WalkKit
import Derived.ProofKit
import Derived.OpenShut
import Derived.ShutString
import Derived.ChangeOld
import Derived.Below
import Derived.SizedLaws
namespace Go.Proofs.Ytkjhhiiickcebaa.hashNames
open Go.ChangeShapes Go.WideShapes Go.ChangeAt Go.RowKit
open Go.Proofs.Ytkjhhiiickcebaa.Op Go.Proofs.YtkjhhiiickcebaaW.PrintWords Go.Proofs.Ytkjhhiiickcebaa.Q
set_option linter.unusedVariables false
theorem own : ownKnob Try.prog.godebug = none := by kernel_rfl
theorem laidOut : laidOutB Try.prog = true := by kernel_rfl
set_option maxRecDepth 100000 in
set_option maxHeartbeats 2000000 in
theorem lifted (os : Os) (started : os.Started) (H : Type) (enc : TypeId × Value → H) :
    ReturnsInHanded {} Try.checked os 8 .any (Rows.hashNamesSpec.pre6 enc Try.prog Try.f8 Rows.hashNamesRow.domain false) (Rows.hashNamesSpec.post enc Try.prog Try.f8 false true false false) := by
  refine returnsInHanded_of_change_sized (C := Try.checked) own started (by kernel_rfl) Try.func8
    (ChangeSpec.witness6 (enc := enc) (C := Try.checked) false ⟨#[], #[.int .u64 0, .agg #[.int .i64 0, .int .i64 0], .agg #[.string ByteArray.empty, .string ByteArray.empty]], []⟩ 8 (by kernel_rfl) (by kernel_rfl) (by kernel_rfl) (by kernel_rfl)) ?_
  intro W base args ds gs before hval0 hW hcnd hsz0 _
  have hval : ∀ (j : Nat) t v, Try.f8.params[j]? = some t → args[j]? = some v → Value.okWide Try.prog W .any base t v := hval0
  have hW' := hW
  obtain ⟨p, q, hA0, hV, rfl, hfz, hnd⟩ := hW
  have hA : DataW.TrodAll enc Try.prog W 0 (fun _ => true) true Try.f8.params.toList args.toList ds p := hA0
  rw [Try.params8] at hA hval
  obtain ⟨v0, vs0, d0, ds0, p0, q0, hargs, rfl, rfl, h0, r0⟩ := trodAll_cons hA
  obtain ⟨v1, vs1, d1, ds1, p1, q1, rfl, rfl, rfl, h1, r1⟩ := trodAll_cons r0
  obtain ⟨v2, vs2, d2, ds2, p2, q2, rfl, rfl, rfl, h2, r2⟩ := trodAll_cons r1
  obtain ⟨rfl, rfl, rfl⟩ := trodAll_nil r2
  obtain rfl : args = #[v0, v1, v2] := by cases args; simp_all
  obtain ⟨rfl, rfl⟩ := trodVars_none hV
  have k0 := h0
  obtain ⟨fu0, hf0⟩ := h0
  obtain ⟨va0, rfl⟩ := okWide_int Try.underlying22 (hval 0 22 v0 rfl rfl)
  obtain ⟨a0, hcsa0, oka0⟩ := ((Opens.int Try.underlying22)).out hf0
  obtain rfl : a0 = va0 := by have e_ : [_] = [_] := hcsa0; simp at e_; exact e_.symm
  have k1 := h1
  obtain ⟨fu1, hf1⟩ := h1
  obtain ⟨cs1, rfl⟩ := okWide_array Try.underlying33 (hval 1 33 v1 rfl rfl)
  obtain ⟨⟨a1_0, a1_1⟩, hK1, ⟨oka1_0, oka1_1⟩⟩ := ((Opens.array Try.underlying33 (by kernel_rfl) (OpensG.cons (Opens.int Try.underlying3) (by kernel_rfl) (by kernel_rfl) (OpensG.one (Opens.int Try.underlying3) (by kernel_rfl) (by kernel_rfl))))).out hf1
  obtain ⟨_, _, hcsa1, rfl, rfl⟩ := hK1
  obtain rfl := agg_of hcsa1
  have k2 := h2
  obtain ⟨fu2, hf2⟩ := h2
  obtain ⟨cs2, rfl⟩ := okWide_array Try.underlying38 (hval 2 38 v2 rfl rfl)
  obtain ⟨⟨a2_0, a2_1⟩, hK2, ⟨oka2_0, oka2_1⟩⟩ := ((Opens.array Try.underlying38 (by kernel_rfl) (OpensG.cons (Opens.string Try.underlying9) (by kernel_rfl) (by kernel_rfl) (OpensG.one (Opens.string Try.underlying9) (by kernel_rfl) (by kernel_rfl))))).out hf2
  obtain ⟨_, _, hcsa2, rfl, rfl⟩ := hK2
  obtain rfl := agg_of hcsa2
  clear hA0 hval0 hsz0
  obtain ⟨k, hp⟩ := pure a0 a1_0 a1_1 a2_0 a2_1 oka0 oka1_0 oka1_1 oka2_0 oka2_1
  refine (sandglasslaw03_HashNames.calls k a0 a1_0 a1_1 a2_0 a2_1 true W hp).mono fun e W' ⟨he, bel0⟩ => ?_
  have bel : Below W.heap.size W W' := bel0
  subst he
  exact ⟨_, rfl, _, _, _, [], _, [], hW', trodAll_mk1 (shut_bool Try.underlying4 _), (trodAll_cons_mk (Below.trod laidOut (by kernel_rfl) (of_decide_eq_true (by kernel_rfl)) k0 bel (trod_lt_all k0)) (trodAll_cons_mk (Below.trod laidOut (by kernel_rfl) (of_decide_eq_true (by kernel_rfl)) k1 bel (trod_lt_all k1)) (trodAll_cons_mk (Below.trod laidOut (by kernel_rfl) (of_decide_eq_true (by kernel_rfl)) k2 bel (trod_lt_all k2)) trodAll_mk0))), rfl, bel.frame _, fun h => by cases h⟩
theorem over : Rows.hashNamesRow.holds Try.pinned (OpenSpec.ofChange Rows.hashNamesSpec) :=
  OpenClaim.holds_of_wide 8 Try.f8 rfl rfl rfl rfl rfl rfl rfl ⟨rfl, rfl, rfl, rfl, rfl⟩ rfl rfl rfl rfl rfl (by kernel_rfl) Try.func8 (by kernel_rfl)
    (of_decide_eq_true (by kernel_rfl)) (by unfold Func.isWrapper; first | (rw [if_pos (by decide +kernel)]; kernel_rfl) | (rw [if_neg (by decide +kernel)]; exact ⟨rfl, rfl⟩))
    (fun os started H enc _ => lifted os started H enc)
end Go.Proofs.Ytkjhhiiickcebaa.hashNames
namespace Go.Proofs.Ytkjhhiiickcebaa
/-- The statement. -/
theorem hashNames_holds : Rows.HashNamesSaid := hashNames.over
#print axioms hashNames_holds
end Go.Proofs.Ytkjhhiiickcebaa
