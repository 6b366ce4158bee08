-- Laid by wip/tools/hprint.py, a program of this repo, over the kit's print; not a text of print.sh.
import Derived.Test.YtonafabgbkohlaaQ0
import Derived.Test.YtonafabgbkohlaaQ2
import Derived.Test.YtonafabgbkohlaaQ9
import Derived.Test.YtonafabgbkohlaaQ10
import Derived.Test.YtonafabgbkohlaaQ12
import Derived.Test.YtonafabgbkohlaaQ13
import Derived.Test.YtonafabgbkohlaaQ14
import Derived.Test.YtonafabgbkohlaaQ15
import Derived.Test.YtonafabgbkohlaaQ16
import Derived.Test.YtonafabgbkohlaaQ17
import Derived.Test.YtonafabgbkohlaaQ18
namespace Go.Proofs.Ytonafabgbkohlaa.Q
open Go.RowKit Go.Proofs.Ytonafabgbkohlaa.Zip Go.Proofs.YtonafabgbkohlaaW.PrintWords Go.Proofs.YtonafabgbkohlaaW.PrintLast Go.Proofs.YtonafabgbkohlaaW.PrintMore
attribute [local go_sem] max2_int min2_int max_two min_two max_three min_three max_four min_four   -- for this text's walks alone
set_option linter.unusedVariables false
set_option linter.unusedSimpArgs false

/-! ### sandglasslaw05_live: given by hand -/
def sandglasslaw05_live.f : Option Bool := some true
def lvA : List S52 := [zeroS, zeroS, zeroS, zeroS]
def lvB : List S52 := [zeroS, zeroS, zeroS, ⟨true, ⟨#[97]⟩, 1, 0⟩]
def lvC : List S52 := [⟨true, ⟨#[98]⟩, 2, 1⟩, zeroS, zeroS, ⟨true, ⟨#[97]⟩, 1, 0⟩]
def lvD : List S52 := [⟨true, ⟨#[98]⟩, 2, 1⟩, zeroS, zeroS, ⟨true, ⟨#[97]⟩, 3, 0⟩]
def lvE : List S52 := [zeroS, zeroS, zeroS, ⟨true, ⟨#[97]⟩, 3, 0⟩]
theorem lv1 : putT 20 7 2 lvA 0 ⟨#[97]⟩ 1 = some (lvB, 1, 0) := by kernel_rfl
theorem lv2 : putT 20 7 2 lvB 1 ⟨#[98]⟩ 2 = some (lvC, 2, 0) := by kernel_rfl
theorem lv3 : putT 20 7 2 lvC 2 ⟨#[97]⟩ 3 = some (lvD, 2, 0) := by kernel_rfl
theorem lv4 : putT 20 7 2 lvD 2 ⟨#[]⟩ 1 = some (lvD, 2, 1) := by kernel_rfl
theorem lv5 : getT 7 2 lvD ⟨#[97]⟩ = (3, true) := by kernel_rfl
theorem lv6 : getT 7 2 lvD ⟨#[122]⟩ = (0, false) := by kernel_rfl
theorem lv7 : delT 20 7 2 lvD 2 ⟨#[98]⟩ = some (lvE, 1, true) := by kernel_rfl
theorem lv8 : delT 20 7 2 lvE 1 ⟨#[98]⟩ = some (lvE, 1, false) := by kernel_rfl
theorem lv9 : sortB (keyL lvE) = [⟨#[97]⟩] := by simp [sortB, keyL, lvE, zeroS]
theorem lvF {w W W' : World} (h : Below w.heap.size w W) (k : Fr (fun q => q = w.heap.size + 1 ∨ q = w.heap.size) W W') : Below w.heap.size w W' := h.trans (k.below (fun q hq => by omega) h.size)
set_option maxHeartbeats 2000000 in
theorem sandglasslaw05_live.calls (w : World) : Calls Try.prog 11 #[] w fun e w' => e = .returned (.bool true) ∧ Below w.heap.size w w' := by
  have CN : Calls Try.prog 12 #[.int .u64 7, .int .i64 2] w _ := robin_New.calls 7 2 w (by decide) (by decide)
  go_enter Try.func11, Try.ntmps11
  go_upto_region 2 with (go_at_call 12; refine CN.mono ?_; rintro e w1 ⟨rfl, ht, hb⟩; have HT := Aside0.mk (show Tab (w.heap.size + 1) w.heap.size 7 ((2 : Nat) : Int) lvA 0 w1 from ht); have HB := Aside0.mk hb; clear ht hb)
  clear CN
  go_upto_region 5 with (go_at_call 12; refine (robin_New.calls_no 7 9 _ (Or.inr (by decide))).mono ?_; rintro e w2 ⟨rfl, hw⟩; obtain rfl : w1 = w2 := hw.symm)
  go_upto_region 6 with (go_at_call 21; refine (robin_Table_Put.calls 20 _ _ 7 0 2 lvA _ _ _ _ _ _ HT.out rfl (by decide) (by decide) (by decide) lv1).mono ?_; rintro e w3 ⟨rfl, ht, _, hf⟩; replace HT := Aside0.mk ht; replace HB := Aside0.mk (lvF HB.out hf); clear ht hf)
  go_upto_region 7 with (go_at_call 21; refine (robin_Table_Put.calls 20 _ _ 7 1 2 lvB _ _ _ _ _ _ HT.out rfl (by decide) (by decide) (by decide) lv2).mono ?_; rintro e w4 ⟨rfl, ht, _, hf⟩; replace HT := Aside0.mk ht; replace HB := Aside0.mk (lvF HB.out hf); clear ht hf)
  go_upto_region 8 with (go_at_call 21; refine (robin_Table_Put.calls 20 _ _ 7 2 2 lvC _ _ _ _ _ _ HT.out rfl (by decide) (by decide) (by decide) lv3).mono ?_; rintro e w5 ⟨rfl, ht, _, hf⟩; replace HT := Aside0.mk ht; replace HB := Aside0.mk (lvF HB.out hf); clear ht hf)
  go_upto_region 9 with (go_at_call 21; refine (robin_Table_Put.calls 20 _ _ 7 2 2 lvD _ _ _ _ _ _ HT.out rfl (by decide) (by decide) (by decide) lv4).mono ?_; rintro e w6 ⟨rfl, ht, _, hf⟩; replace HT := Aside0.mk ht; replace HB := Aside0.mk (lvF HB.out hf); clear ht hf)
  have G7 := robin_Table_Get.calls _ _ 7 2 2 lvD ⟨#[97]⟩ w6 HT.out rfl (by decide) (by decide) (by decide)
  rw [lv5] at G7
  go_upto_region 10 with (go_at_call 25; refine G7.mono ?_; rintro e w7 ⟨rfl, hb⟩; replace HT := Aside0.mk (HT.out.below hb); replace HB := Aside0.mk (HB.out.trans (hb.mono HB.out.size)); clear hb)
  clear G7
  have G8 := robin_Table_Get.calls _ _ 7 2 2 lvD ⟨#[122]⟩ w7 HT.out rfl (by decide) (by decide) (by decide)
  rw [lv6] at G8
  go_upto_region 11 with (go_at_call 25; refine G8.mono ?_; rintro e w8 ⟨rfl, hb⟩; replace HT := Aside0.mk (HT.out.below hb); replace HB := Aside0.mk (HB.out.trans (hb.mono HB.out.size)); clear hb)
  clear G8
  go_upto_region 12 with (go_at_call 22; refine (robin_Table_Delete.calls 20 _ _ 7 2 2 lvD _ _ _ _ _ HT.out rfl (by decide) (by decide) (by decide) lv7).mono ?_; rintro e w9 ⟨rfl, ht, _, hf⟩; replace HT := Aside0.mk ht; replace HB := Aside0.mk (lvF HB.out hf); clear ht hf)
  go_upto_region 13 with (go_at_call 22; refine (robin_Table_Delete.calls 20 _ _ 7 1 2 lvE _ _ _ _ _ HT.out rfl (by decide) (by decide) (by decide) lv8).mono ?_; rintro e w10 ⟨rfl, ht, _, hf⟩; replace HT := Aside0.mk ht; replace HB := Aside0.mk (lvF HB.out hf); clear ht hf)
  have K11 := robin_Table_Keys.calls _ _ 7 ((2 : Nat) : Int) 1 lvE w10 HT.out (by decide)
  rw [lv9] at K11
  go_upto_region 14 with (go_at_call 17; refine K11.mono ?_; rintro e w11 ⟨v, rfl, ho, hb⟩; obtain ⟨Ak, ck, rfl⟩ := Kd.R_slice ho; replace HT := Aside0.mk (HT.out.below hb); replace HB := Aside0.mk (HB.out.trans (hb.mono HB.out.size)); have HK := Aside0.mk (Kd.R_reads' ho).2.2; clear ho hb)
  clear K11
  go_upto_region 15 with (go_at_call 20; refine (robin_Table_Slots.calls _ _ 7 ((2 : Nat) : Int) 1 lvE _ HT.out (by decide)).mono ?_; rintro e w12 ⟨v, rfl, ho, hb⟩; obtain ⟨As, cs, rfl⟩ := Kd.R_slice ho; replace HT := Aside0.mk (HT.out.below hb); replace HB := Aside0.mk (HB.out.trans (hb.mono HB.out.size)); replace HK := Aside0.mk (Kd.C_below HK.out hb); clear ho hb)
  obtain ⟨ak, ek, x0⟩ := Kd.at_string HK.out 0 (by decide) (by decide)
  subst ek
  replace x0 : w12.cell? ak = some (.string ⟨#[97]⟩) := x0
  have LN := Aside0.mk (robin_Table_Len.calls _ _ 7 ((2 : Nat) : Int) 1 lvE w12 HT.out)
  go_wp2_with (go_at_call 15; refine LN.out.mono ?_; rintro e w13 ⟨rfl, hw⟩; obtain rfl : w12 = w13 := hw.symm)
  go_ret
  exact ⟨rfl, HB.out⟩

end Go.Proofs.Ytonafabgbkohlaa.Q
