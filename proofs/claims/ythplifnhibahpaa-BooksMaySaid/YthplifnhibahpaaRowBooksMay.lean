/- The statement BooksMay: whatever the input, the law's function returns true and leaves its arguments as they were. No further condition. -/
import Derived.Test.YthplifnhibahpaaRows
import Derived.Test.YthplifnhibahpaaQ28
import Derived.Test.YthplifnhibahpaaOpen
import Derived.Test.YthplifnhibahpaaPuBooksMay
import Derived.WalkKit
import Derived.ProofKit
import Derived.OpenShut
import Derived.ShutString
import Derived.ChangeOld
import Derived.Below
import Derived.SizedLaws
namespace Go.Proofs.Ythplifnhibahpaa.booksMay
open Go.ChangeShapes Go.WideShapes Go.ChangeAt Go.RowKit
open Go.Proofs.Ythplifnhibahpaa.Op Go.Proofs.YthplifnhibahpaaW.PrintWords Go.Proofs.Ythplifnhibahpaa.Q
set_option linter.unusedVariables false
theorem own : ownKnob Try.prog.godebug = none := by kernel_rfl
theorem laidOut : laidOutB Try.prog = true := by kernel_rfl
instance : Inhabited S43 := ⟨z43⟩
set_option maxRecDepth 100000 in
set_option maxHeartbeats 2000000 in
theorem lifted (os : Os) (started : os.Started) (H : Type) (enc : TypeId × Value → H) :
    ReturnsInHanded {} Try.checked os 5 .any (Rows.booksMaySpec.pre6 enc Try.prog Try.f5 Rows.booksMayRow.domain false) (Rows.booksMaySpec.post enc Try.prog Try.f5 false true false false) := by
  refine returnsInHanded_of_change_sized (C := Try.checked) own started (by kernel_rfl) Try.func5
    (ChangeSpec.witness6 (enc := enc) (C := Try.checked) false ⟨#[], #[.slice none 0 0, .agg #[.int .i64 0, .int .i64 0], .agg #[.int .i64 0, .int .i64 0, .int .i64 0, .int .i64 0]], []⟩ 8 (by kernel_rfl) (by kernel_rfl) (by kernel_rfl) (by kernel_rfl)) ?_
  intro W base args ds gs before hval0 hW hcnd hsz0 _
  have hval : ∀ (j : Nat) t v, Try.f5.params[j]? = some t → args[j]? = some v → Value.okWide Try.prog W .any base t v := hval0
  have hW' := hW
  obtain ⟨p, q, hA0, hV, rfl, hfz, hnd⟩ := hW
  have hA : DataW.TrodAll enc Try.prog W 0 (fun _ => true) true Try.f5.params.toList args.toList ds p := hA0
  rw [Try.params5] at hA hval
  obtain ⟨v0, vs0, d0, ds0, p0, q0, hargs, rfl, rfl, h0, r0⟩ := trodAll_cons hA
  obtain ⟨v1, vs1, d1, ds1, p1, q1, rfl, rfl, rfl, h1, r1⟩ := trodAll_cons r0
  obtain ⟨v2, vs2, d2, ds2, p2, q2, rfl, rfl, rfl, h2, r2⟩ := trodAll_cons r1
  obtain ⟨rfl, rfl, rfl⟩ := trodAll_nil r2
  obtain rfl : args = #[v0, v1, v2] := by cases args; simp_all
  obtain ⟨rfl, rfl⟩ := trodVars_none hV
  have k0 := h0
  obtain ⟨fu0, hf0⟩ := h0
  obtain ⟨va0, vn0, vc0, rfl⟩ := okWide_slice Try.underlying22 (hval 0 22 v0 rfl rfl)
  obtain ⟨a0, ⟨Aa0, ca0, hcsa0, hca0, hra0⟩, oka0⟩ := ((Opens.slice Try.underlying22 (Opens.iso (Opens.struct Try.underlying43 (by kernel_rfl) (OpensG.cons (Opens.bool Try.underlying4) (by kernel_rfl) (by kernel_rfl) (OpensG.cons (Opens.iso (Opens.struct Try.underlying25 (by kernel_rfl) (OpensG.cons (Opens.int Try.underlying3) (by kernel_rfl) (by kernel_rfl) (OpensG.cons (Opens.int Try.underlying3) (by kernel_rfl) (by kernel_rfl) (OpensG.cons (Opens.int Try.underlying3) (by kernel_rfl) (by kernel_rfl) (OpensG.one (Opens.int Try.underlying3) (by kernel_rfl) (by kernel_rfl)))))) (fun x : S25 => (x.f0, x.f1, x.f2, x.f3)) (fun y => (⟨y.1, y.2.1, y.2.2.1, y.2.2.2⟩ : S25)) (fun _ => rfl)) (by kernel_rfl) (by kernel_rfl) (OpensG.one (Opens.int Try.underlying3) (by kernel_rfl) (by kernel_rfl))))) (fun x : S43 => (x.f0, x.f1, x.f2)) (fun y => (⟨y.1, y.2.1, y.2.2⟩ : S43)) (fun _ => rfl)) (by kernel_rfl))).out hf0
  obtain ⟨e1_, e2_, e3_⟩ := slice_of hcsa0
  subst va0; subst vn0; subst vc0
  have k1 := h1
  obtain ⟨fu1, hf1⟩ := h1
  obtain ⟨cs1, rfl⟩ := okWide_array Try.underlying41 (hval 1 41 v1 rfl rfl)
  obtain ⟨⟨a1_0, a1_1⟩, hK1, ⟨oka1_0, oka1_1⟩⟩ := ((Opens.array Try.underlying41 (by kernel_rfl) (OpensG.cons (Opens.int Try.underlying3) (by kernel_rfl) (by kernel_rfl) (OpensG.one (Opens.int Try.underlying3) (by kernel_rfl) (by kernel_rfl))))).out hf1
  obtain ⟨_, _, hcsa1, rfl, rfl⟩ := hK1
  obtain rfl := agg_of hcsa1
  have k2 := h2
  obtain ⟨fu2, hf2⟩ := h2
  obtain ⟨cs2, rfl, _⟩ := okWide_struct Try.underlying25 (hval 2 25 v2 rfl rfl)
  obtain ⟨⟨a2_0, a2_1, a2_2, a2_3⟩, hK2, ⟨oka2_0, oka2_1, oka2_2, oka2_3⟩⟩ := ((Opens.struct Try.underlying25 (by kernel_rfl) (OpensG.cons (Opens.int Try.underlying3) (by kernel_rfl) (by kernel_rfl) (OpensG.cons (Opens.int Try.underlying3) (by kernel_rfl) (by kernel_rfl) (OpensG.cons (Opens.int Try.underlying3) (by kernel_rfl) (by kernel_rfl) (OpensG.one (Opens.int Try.underlying3) (by kernel_rfl) (by kernel_rfl))))))).out hf2
  obtain ⟨_, _, hcsa2, rfl, ⟨_, _, rfl, rfl, ⟨_, _, rfl, rfl, rfl⟩⟩⟩ := hK2
  obtain rfl := agg_of hcsa2
  clear hA0 hval0 hsz0
  obtain ⟨k, hp⟩ := pure a0 a1_0 a1_1 a2_0 a2_1 a2_2 a2_3 oka0 oka1_0 oka1_1 oka2_0 oka2_1 oka2_2 oka2_3
  refine (sandglasslaw16_BooksMay.calls k Aa0 ca0 a0 a1_0 a1_1 a2_0 a2_1 a2_2 a2_3 true W hra0 hca0 hp).mono fun e W' ⟨he, bel0⟩ => ?_
  have bel : Below W.heap.size W W' := bel0
  subst he
  exact ⟨_, rfl, _, _, _, [], _, [], hW', trodAll_mk1 (shut_bool Try.underlying4 _), (trodAll_cons_mk (Below.trod laidOut (by kernel_rfl) (of_decide_eq_true (by kernel_rfl)) k0 bel (trod_lt_all k0)) (trodAll_cons_mk (Below.trod laidOut (by kernel_rfl) (of_decide_eq_true (by kernel_rfl)) k1 bel (trod_lt_all k1)) (trodAll_cons_mk (Below.trod laidOut (by kernel_rfl) (of_decide_eq_true (by kernel_rfl)) k2 bel (trod_lt_all k2)) trodAll_mk0))), rfl, bel.frame _, fun h => by cases h⟩
theorem over : Rows.booksMayRow.holds Try.pinned (OpenSpec.ofChange Rows.booksMaySpec) :=
  OpenClaim.holds_of_wide 5 Try.f5 rfl rfl rfl rfl rfl rfl rfl ⟨rfl, rfl, rfl, rfl, rfl⟩ rfl rfl rfl rfl rfl (by kernel_rfl) Try.func5 (by kernel_rfl)
    (of_decide_eq_true (by kernel_rfl)) (by unfold Func.isWrapper; first | (rw [if_pos (by decide +kernel)]; kernel_rfl) | (rw [if_neg (by decide +kernel)]; exact ⟨rfl, rfl⟩))
    (fun os started H enc _ => lifted os started H enc)
end Go.Proofs.Ythplifnhibahpaa.booksMay
namespace Go.Proofs.Ythplifnhibahpaa
/-- The statement. -/
theorem booksMay_holds : Rows.BooksMaySaid := booksMay.over
#print axioms booksMay_holds
end Go.Proofs.Ythplifnhibahpaa
