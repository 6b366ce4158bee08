/- The statement RobinFinds: whatever the input, the law's function returns true and leaves its arguments as they were. No further condition. -/
import Derived.Test.YtonafabgbkohlaaRows
import Derived.Test.YtonafabgbkohlaaQ62
import Derived.Test.YtonafabgbkohlaaOpen
import Derived.Test.YtonafabgbkohlaaPuRobinFinds
import Derived.WalkKit
import Derived.ProofKit
import Derived.OpenShut
import Derived.ShutString
import Derived.ChangeOld
import Derived.Below
import Derived.SizedLaws
namespace Go.Proofs.Ytonafabgbkohlaa.robinFinds
open Go.ChangeShapes Go.WideShapes Go.ChangeAt Go.RowKit
open Go.Proofs.Ytonafabgbkohlaa.Op Go.Proofs.YtonafabgbkohlaaW.PrintWords Go.Proofs.Ytonafabgbkohlaa.Q
set_option linter.unusedVariables false
theorem own : ownKnob Try.prog.godebug = none := by kernel_rfl
theorem laidOut : laidOutB Try.prog = true := by kernel_rfl
instance : Inhabited S35 := ⟨z35⟩
set_option maxRecDepth 100000 in
set_option maxHeartbeats 2000000 in
theorem lifted (os : Os) (started : os.Started) (H : Type) (enc : TypeId × Value → H) :
    ReturnsInHanded {} Try.checked os 5 .any (Rows.robinFindsSpec.pre6 enc Try.prog Try.f5 Rows.robinFindsRow.domain false) (Rows.robinFindsSpec.post enc Try.prog Try.f5 false true false false) := by
  refine returnsInHanded_of_change_sized (C := Try.checked) own started (by kernel_rfl) Try.func5
    (ChangeSpec.witness6 (enc := enc) (C := Try.checked) false ⟨#[], #[.int .u64 0, .slice none 0 0, .string ByteArray.empty], []⟩ 8 (by kernel_rfl) (by kernel_rfl) (by kernel_rfl) (by kernel_rfl)) ?_
  intro W base args ds gs before hval0 hW hcnd hsz0 _
  have hval : ∀ (j : Nat) t v, Try.f5.params[j]? = some t → args[j]? = some v → Value.okWide Try.prog W .any base t v := hval0
  have hW' := hW
  obtain ⟨p, q, hA0, hV, rfl, hfz, hnd⟩ := hW
  have hA : DataW.TrodAll enc Try.prog W 0 (fun _ => true) true Try.f5.params.toList args.toList ds p := hA0
  rw [Try.params5] at hA hval
  obtain ⟨v0, vs0, d0, ds0, p0, q0, hargs, rfl, rfl, h0, r0⟩ := trodAll_cons hA
  obtain ⟨v1, vs1, d1, ds1, p1, q1, rfl, rfl, rfl, h1, r1⟩ := trodAll_cons r0
  obtain ⟨v2, vs2, d2, ds2, p2, q2, rfl, rfl, rfl, h2, r2⟩ := trodAll_cons r1
  obtain ⟨rfl, rfl, rfl⟩ := trodAll_nil r2
  obtain rfl : args = #[v0, v1, v2] := by cases args; simp_all
  obtain ⟨rfl, rfl⟩ := trodVars_none hV
  have k0 := h0
  obtain ⟨fu0, hf0⟩ := h0
  obtain ⟨va0, rfl⟩ := okWide_int Try.underlying22 (hval 0 22 v0 rfl rfl)
  obtain ⟨a0, hcsa0, oka0⟩ := ((Opens.int Try.underlying22)).out hf0
  obtain rfl : a0 = va0 := by have e_ : [_] = [_] := hcsa0; simp at e_; exact e_.symm
  have k1 := h1
  obtain ⟨fu1, hf1⟩ := h1
  obtain ⟨va1, vn1, vc1, rfl⟩ := okWide_slice Try.underlying23 (hval 1 23 v1 rfl rfl)
  obtain ⟨a1, ⟨Aa1, ca1, hcsa1, hca1, hra1⟩, oka1⟩ := ((Opens.slice Try.underlying23 (Opens.iso (Opens.struct Try.underlying35 (by kernel_rfl) (OpensG.cons (Opens.int Try.underlying3) (by kernel_rfl) (by kernel_rfl) (OpensG.cons (Opens.string Try.underlying9) (by kernel_rfl) (by kernel_rfl) (OpensG.one (Opens.int Try.underlying3) (by kernel_rfl) (by kernel_rfl))))) (fun x : S35 => (x.f0, x.f1, x.f2)) (fun y => (⟨y.1, y.2.1, y.2.2⟩ : S35)) (fun _ => rfl)) (by kernel_rfl))).out hf1
  obtain ⟨e1_, e2_, e3_⟩ := slice_of hcsa1
  subst va1; subst vn1; subst vc1
  have k2 := h2
  obtain ⟨fu2, hf2⟩ := h2
  obtain ⟨va2, rfl⟩ := okWide_string Try.underlying9 (hval 2 9 v2 rfl rfl)
  obtain ⟨a2, hcsa2, oka2⟩ := ((Opens.string Try.underlying9)).out hf2
  obtain rfl : a2 = va2 := by have e_ : [_] = [_] := hcsa2; simp at e_; exact e_.symm
  clear hA0 hval0 hsz0
  have hp := pure a0 a1 a2 oka0 oka1 oka2
  refine (sandglasslaw05_RobinFinds.calls a0 Aa1 ca1 a1 a2 true W hra1 hca1 hp).mono fun e W' ⟨he, bel0⟩ => ?_
  have bel : Below W.heap.size W W' := bel0
  subst he
  exact ⟨_, rfl, _, _, _, [], _, [], hW', trodAll_mk1 (shut_bool Try.underlying4 _), (trodAll_cons_mk (Below.trod laidOut (by kernel_rfl) (of_decide_eq_true (by kernel_rfl)) k0 bel (trod_lt_all k0)) (trodAll_cons_mk (Below.trod laidOut (by kernel_rfl) (of_decide_eq_true (by kernel_rfl)) k1 bel (trod_lt_all k1)) (trodAll_cons_mk (Below.trod laidOut (by kernel_rfl) (of_decide_eq_true (by kernel_rfl)) k2 bel (trod_lt_all k2)) trodAll_mk0))), rfl, bel.frame _, fun h => by cases h⟩
theorem over : Rows.robinFindsRow.holds Try.pinned (OpenSpec.ofChange Rows.robinFindsSpec) :=
  OpenClaim.holds_of_wide 5 Try.f5 rfl rfl rfl rfl rfl rfl rfl ⟨rfl, rfl, rfl, rfl, rfl⟩ rfl rfl rfl rfl rfl (by kernel_rfl) Try.func5 (by kernel_rfl)
    (of_decide_eq_true (by kernel_rfl)) (by unfold Func.isWrapper; first | (rw [if_pos (by decide +kernel)]; kernel_rfl) | (rw [if_neg (by decide +kernel)]; exact ⟨rfl, rfl⟩))
    (fun os started H enc _ => lifted os started H enc)
end Go.Proofs.Ytonafabgbkohlaa.robinFinds
namespace Go.Proofs.Ytonafabgbkohlaa
/-- The statement. -/
theorem robinFinds_holds : Rows.RobinFindsSaid := robinFinds.over
#print axioms robinFinds_holds
end Go.Proofs.Ytonafabgbkohlaa
