/- few, told both ways. -/
import Derived.Test.YtonafabgbkohlaaQ0
import Derived.RegionTactic
import Derived.ChangeAlike
import Derived.Deep.RegionWith
namespace Go.Proofs.Ytonafabgbkohlaa.La
open Go.RowKit Go.Proofs.Ytonafabgbkohlaa.Zip Go.Proofs.YtonafabgbkohlaaW.PrintWords Go.Proofs.YtonafabgbkohlaaW.PrintLast Go.Proofs.YtonafabgbkohlaaW.PrintMore Go.Proofs.Ytonafabgbkohlaa.Q
set_option linter.unusedSimpArgs false
set_option linter.unusedVariables false
def fewB (l0 : List S35) (m : Nat) : Bool := decide (l0.length ≤ m ∧ ∀ i : Nat, i < l0.length → (rd_T35 l0 (i : Int)).f1.size ≤ 100)
set_option maxHeartbeats 2000000 in
theorem few_tells (A0 : Option Addr) (c0 : Nat) (l0 : List S35) (m : Nat) (w : World) (hr0 : Kd.C k35 w A0 l0.length l0) (hm : m ≤ 1000) :
    Calls Try.prog 10 #[.slice A0 l0.length c0, .int .i64 (m : Int)] w fun e w' => ∃ b, e = .returned (.bool b) ∧ (b = true ↔ l0.length ≤ m ∧ ∀ i : Nat, i < l0.length → (rd_T35 l0 (i : Int)).f1.size ≤ 100) ∧ Below w.heap.size w w' := by
  have HR0 := Aside0.mk hr0
  clear hr0
  by_cases h1 : m < l0.length
  · have d1 : decide (m < l0.length) = true := decide_eq_true h1
    go_enter Try.func10, Try.ntmps10
    go_wp2
    go_ret
    exact ⟨_, rfl, ⟨fun h => Bool.noConfusion h, fun h => by have := h.1; omega⟩, Below.refl _ _⟩
  · have d1 : decide (m < l0.length) = false := decide_eq_false h1
    have HM := Aside0.mk h1
    clear h1
    go_enter Try.func10, Try.ntmps10
    go_wp2
    go_loopw [5] (fun v5 w' => ∃ i : Nat, v5 = .int .i64 i ∧ Aside0 (i ≤ l0.length ∧ ∀ j : Nat, j < i → (rd_T35 l0 (j : Int)).f1.size ≤ 100) ∧ Drawn0 w w') (fun v5 _ => l0.length - (intOf v5).toNat)
    case atStart => exact ⟨0, rfl, ⟨Nat.zero_le _, fun j hj => absurd hj (Nat.not_lt_zero _)⟩, by repeat (first | exact Drawn0.refl _ | apply Drawn0.step)⟩
    case round =>
      obtain ⟨i, rfl, HI, ⟨m1, rfl⟩⟩ := hrel
      have hi := HI.out.1
      by_cases hlt : i < l0.length
      · have d2 : decide (i < l0.length) = true := decide_eq_true hlt
        have HLT := Aside0.mk hlt
        obtain ⟨ad, ea, x0, x1, x2⟩ := at_T35 HR0.out (i : Int) (by omega) (by omega)
        subst ea
        simp only [Int.toNat_natCast] at x0 x1 x2
        have dw : wrap64 ((i : Int) + 1) = (i : Int) + 1 := by have := HM.out; unfold wrap64; omega
        by_cases hs : 100 < (rd_T35 l0 (i : Int)).f1.size
        · have d3 : decide (100 < (rd_T35 l0 (i : Int)).f1.size) = true := decide_eq_true hs
          have d4 : decide ((100 : Int) < ((rd_T35 l0 (i : Int)).f1.size : Int)) = true := decide_eq_true (by omega)
          have HS := Aside0.mk hs
          clear hs hi
          go_wp2
          go_ret
          exact ⟨_, rfl, ⟨fun h => Bool.noConfusion h, fun h => by have := h.2 i HLT.out; have := HS.out; omega⟩, pw_below_drewN (Below.refl _ _) _⟩
        · have d3 : decide (100 < (rd_T35 l0 (i : Int)).f1.size) = false := decide_eq_false hs
          have d4 : decide ((100 : Int) < ((rd_T35 l0 (i : Int)).f1.size : Int)) = false := decide_eq_false (by omega)
          have HS := Aside0.mk hs
          have DW := Aside0.mk dw
          clear hs hi
          go_wp2
          go_roundw
          case rel =>
            refine ⟨i + 1, by rw [DW.out]; rfl, ⟨by have := HLT.out; omega, fun j hj => ?_⟩, by repeat (first | exact Drawn0.refl _ | apply Drawn0.step)⟩
            by_cases e : j = i
            · subst e; have := HS.out; omega
            · exact HI.out.2 j (by omega)
          case measure =>
            rw [DW.out]; simp only [intOf]; have := HLT.out; omega
      · obtain rfl : i = l0.length := by omega
        have d2 : decide (l0.length < l0.length) = false := decide_eq_false hlt
        go_wp2
        go_ret
        exact ⟨_, rfl, ⟨fun _ => ⟨by have := HM.out; omega, HI.out.2⟩, fun _ => rfl⟩, pw_below_drewN (Below.refl _ _) _⟩
theorem few_calls (A0 : Option Addr) (c0 : Nat) (l0 : List S35) (m : Nat) (w : World) (hr0 : Kd.C k35 w A0 l0.length l0) (hm : m ≤ 1000) (r : Bool) (hr : fewB l0 m = r) :
    Calls Try.prog 10 #[.slice A0 l0.length c0, .int .i64 (m : Int)] w fun e w' => e = .returned (.bool r) ∧ Below w.heap.size w w' := by
  refine (few_tells A0 c0 l0 m w hr0 hm).mono ?_
  rintro e w' ⟨b, rfl, hb, hB⟩
  have : b = r := by rw [← hr, Bool.eq_iff_iff, hb]; unfold fewB; rw [decide_eq_true_iff]
  rw [this]
  exact ⟨rfl, hB⟩
theorem fewB_true {l0 : List S35} {m : Nat} (h : fewB l0 m = true) : l0.length ≤ m ∧ ∀ i : Nat, i < l0.length → (rd_T35 l0 (i : Int)).f1.size ≤ 100 := by
  unfold fewB at h; exact of_decide_eq_true h
end Go.Proofs.Ytonafabgbkohlaa.La
