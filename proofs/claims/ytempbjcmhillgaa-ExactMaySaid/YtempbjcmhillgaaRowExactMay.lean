/- The statement ExactMay: whatever the input, the law's function returns true and leaves its arguments as they were. No further condition. -/
import Derived.Test.YtempbjcmhillgaaRows
import Derived.Test.YtempbjcmhillgaaQ28
import Derived.Test.YtempbjcmhillgaaOpen
import Derived.Test.YtempbjcmhillgaaPuExactMay
import Derived.WalkKit
import Derived.ProofKit
import Derived.OpenShut
import Derived.ShutString
import Derived.ChangeOld
import Derived.Below
import Derived.SizedLaws
namespace Go.Proofs.Ytempbjcmhillgaa.exactMay
open Go.ChangeShapes Go.WideShapes Go.ChangeAt Go.RowKit
open Go.Proofs.Ytempbjcmhillgaa.Op Go.Proofs.YtempbjcmhillgaaW.PrintWords Go.Proofs.Ytempbjcmhillgaa.Q
set_option linter.unusedVariables false
theorem own : ownKnob Try.prog.godebug = none := by kernel_rfl
theorem laidOut : laidOutB Try.prog = true := by kernel_rfl
instance : Inhabited S50 := ⟨z50⟩
set_option maxRecDepth 100000 in
set_option maxHeartbeats 2000000 in
theorem lifted (os : Os) (started : os.Started) (H : Type) (enc : TypeId × Value → H) :
    ReturnsInHanded {} Try.checked os 4 .any (Rows.exactMaySpec.pre6 enc Try.prog Try.f4 Rows.exactMayRow.domain false) (Rows.exactMaySpec.post enc Try.prog Try.f4 false true false false) := by
  refine returnsInHanded_of_change_sized (C := Try.checked) own started (by kernel_rfl) Try.func4
    (ChangeSpec.witness6 (enc := enc) (C := Try.checked) false ⟨#[], #[.agg #[.int .i64 0, .int .i64 0, .int .i64 0, .int .i64 0], .agg #[.int .i64 0, .int .i64 0, .slice none 0 0, .slice none 0 0], .agg #[.int .i64 0, .int .i64 0]], []⟩ 8 (by kernel_rfl) (by kernel_rfl) (by kernel_rfl) (by kernel_rfl)) ?_
  intro W base args ds gs before hval0 hW hcnd hsz0 _
  have hval : ∀ (j : Nat) t v, Try.f4.params[j]? = some t → args[j]? = some v → Value.okWide Try.prog W .any base t v := hval0
  have hW' := hW
  obtain ⟨p, q, hA0, hV, rfl, hfz, hnd⟩ := hW
  have hA : DataW.TrodAll enc Try.prog W 0 (fun _ => true) true Try.f4.params.toList args.toList ds p := hA0
  rw [Try.params4] at hA hval
  obtain ⟨v0, vs0, d0, ds0, p0, q0, hargs, rfl, rfl, h0, r0⟩ := trodAll_cons hA
  obtain ⟨v1, vs1, d1, ds1, p1, q1, rfl, rfl, rfl, h1, r1⟩ := trodAll_cons r0
  obtain ⟨v2, vs2, d2, ds2, p2, q2, rfl, rfl, rfl, h2, r2⟩ := trodAll_cons r1
  obtain ⟨rfl, rfl, rfl⟩ := trodAll_nil r2
  obtain rfl : args = #[v0, v1, v2] := by cases args; simp_all
  obtain ⟨rfl, rfl⟩ := trodVars_none hV
  have k0 := h0
  obtain ⟨fu0, hf0⟩ := h0
  obtain ⟨cs0, rfl, _⟩ := okWide_struct Try.underlying23 (hval 0 23 v0 rfl rfl)
  obtain ⟨⟨a0_0, a0_1, a0_2, a0_3⟩, hK0, ⟨oka0_0, oka0_1, oka0_2, oka0_3⟩⟩ := ((Opens.struct Try.underlying23 (by kernel_rfl) (OpensG.cons (Opens.int Try.underlying3) (by kernel_rfl) (by kernel_rfl) (OpensG.cons (Opens.int Try.underlying3) (by kernel_rfl) (by kernel_rfl) (OpensG.cons (Opens.int Try.underlying3) (by kernel_rfl) (by kernel_rfl) (OpensG.one (Opens.int Try.underlying3) (by kernel_rfl) (by kernel_rfl))))))).out hf0
  obtain ⟨_, _, hcsa0, rfl, ⟨_, _, rfl, rfl, ⟨_, _, rfl, rfl, rfl⟩⟩⟩ := hK0
  obtain rfl := agg_of hcsa0
  have k1 := h1
  obtain ⟨fu1, hf1⟩ := h1
  obtain ⟨cs1, rfl, _⟩ := okWide_struct Try.underlying27 (hval 1 27 v1 rfl rfl)
  obtain ⟨⟨a1_0, a1_1, a1_2, a1_3⟩, hK1, ⟨oka1_0, oka1_1, oka1_2, oka1_3⟩⟩ := ((Opens.struct Try.underlying27 (by kernel_rfl) (OpensG.cons (Opens.int Try.underlying3) (by kernel_rfl) (by kernel_rfl) (OpensG.cons (Opens.int Try.underlying3) (by kernel_rfl) (by kernel_rfl) (OpensG.cons (Opens.slice Try.underlying24 (Opens.int Try.underlying3) (by kernel_rfl)) (by kernel_rfl) (by kernel_rfl) (OpensG.one (Opens.slice Try.underlying25 (Opens.iso (Opens.struct Try.underlying50 (by kernel_rfl) (OpensG.cons (Opens.int Try.underlying3) (by kernel_rfl) (by kernel_rfl) (OpensG.one (Opens.int Try.underlying3) (by kernel_rfl) (by kernel_rfl)))) (fun x : S50 => (x.f0, x.f1)) (fun y => (⟨y.1, y.2⟩ : S50)) (fun _ => rfl)) (by kernel_rfl)) (by kernel_rfl) (by kernel_rfl))))))).out hf1
  obtain ⟨_, _, hcsa1, rfl, ⟨_, _, rfl, rfl, ⟨_, _, rfl, ⟨Aa1_2, ca1_2, rfl, hca1_2, hra1_2⟩, ⟨Aa1_3, ca1_3, rfl, hca1_3, hra1_3⟩⟩⟩⟩ := hK1
  obtain rfl := agg_of hcsa1
  have k2 := h2
  obtain ⟨fu2, hf2⟩ := h2
  obtain ⟨cs2, rfl⟩ := okWide_array Try.underlying28 (hval 2 28 v2 rfl rfl)
  obtain ⟨⟨a2_0, a2_1⟩, hK2, ⟨oka2_0, oka2_1⟩⟩ := ((Opens.array Try.underlying28 (by kernel_rfl) (OpensG.cons (Opens.int Try.underlying3) (by kernel_rfl) (by kernel_rfl) (OpensG.one (Opens.int Try.underlying3) (by kernel_rfl) (by kernel_rfl))))).out hf2
  obtain ⟨_, _, hcsa2, rfl, rfl⟩ := hK2
  obtain rfl := agg_of hcsa2
  clear hA0 hval0 hsz0
  obtain ⟨k, hp⟩ := pure a0_0 a0_1 a0_2 a0_3 a1_0 a1_1 a1_2 a1_3 a2_0 a2_1 oka0_0 oka0_1 oka0_2 oka0_3 oka1_0 oka1_1 oka1_2 oka1_3 oka2_0 oka2_1
  refine (sandglasslaw13_ExactMay.calls k a0_0 a0_1 a0_2 a0_3 a1_0 a1_1 Aa1_2 ca1_2 a1_2 Aa1_3 ca1_3 a1_3 a2_0 a2_1 true W hra1_2 hca1_2 hra1_3 hca1_3 hp).mono fun e W' ⟨he, bel0⟩ => ?_
  have bel : Below W.heap.size W W' := bel0
  subst he
  exact ⟨_, rfl, _, _, _, [], _, [], hW', trodAll_mk1 (shut_bool Try.underlying4 _), (trodAll_cons_mk (Below.trod laidOut (by kernel_rfl) (of_decide_eq_true (by kernel_rfl)) k0 bel (trod_lt_all k0)) (trodAll_cons_mk (Below.trod laidOut (by kernel_rfl) (of_decide_eq_true (by kernel_rfl)) k1 bel (trod_lt_all k1)) (trodAll_cons_mk (Below.trod laidOut (by kernel_rfl) (of_decide_eq_true (by kernel_rfl)) k2 bel (trod_lt_all k2)) trodAll_mk0))), rfl, bel.frame _, fun h => by cases h⟩
theorem over : Rows.exactMayRow.holds Try.pinned (OpenSpec.ofChange Rows.exactMaySpec) :=
  OpenClaim.holds_of_wide 4 Try.f4 rfl rfl rfl rfl rfl rfl rfl ⟨rfl, rfl, rfl, rfl, rfl⟩ rfl rfl rfl rfl rfl (by kernel_rfl) Try.func4 (by kernel_rfl)
    (of_decide_eq_true (by kernel_rfl)) (by unfold Func.isWrapper; first | (rw [if_pos (by decide +kernel)]; kernel_rfl) | (rw [if_neg (by decide +kernel)]; exact ⟨rfl, rfl⟩))
    (fun os started H enc _ => lifted os started H enc)
end Go.Proofs.Ytempbjcmhillgaa.exactMay
namespace Go.Proofs.Ytempbjcmhillgaa
/-- The statement. -/
theorem exactMay_holds : Rows.ExactMaySaid := exactMay.over
#print axioms exactMay_holds
end Go.Proofs.Ytempbjcmhillgaa
