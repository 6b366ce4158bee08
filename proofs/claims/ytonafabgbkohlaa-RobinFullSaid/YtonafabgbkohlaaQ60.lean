/- RobinFull: its walk. -/
import Derived.Test.YtonafabgbkohlaaRobinLd
import Derived.Test.YtonafabgbkohlaaQ19
import Derived.RegionTactic
import Derived.ChangeAlike
import Derived.Deep.RegionWith
namespace Go.Proofs.Ytonafabgbkohlaa.Q
open Go.RowKit Go.Proofs.Ytonafabgbkohlaa.Zip Go.Proofs.YtonafabgbkohlaaW.PrintWords Go.Proofs.YtonafabgbkohlaaW.PrintLast Go.Proofs.YtonafabgbkohlaaW.PrintMore Go.Proofs.Ytonafabgbkohlaa.La
set_option linter.unusedVariables false
set_option linter.unusedSimpArgs false
/-- The i-th key. -/
def fKey (i : Nat) : ByteArray := ⟨#[UInt8.ofNat i, UInt8.ofNat (7 * i)]⟩
def fullF : Nat → KF
  | 0 => fun _ => none
  | i + 1 => upd (fullF i) (fKey i) (some (i : Int))
theorem fKey_inj {i j : Nat} (hi : i < 256) (hj : j < 256) (h : fKey i = fKey j) : i = j := by
  unfold fKey at h
  have h1 := congrArg ByteArray.data h
  simp only [Array.mk.injEq, List.cons.injEq, and_true] at h1
  have h2 := congrArg UInt8.toNat h1.1
  rw [UInt8.toNat_ofNat', UInt8.toNat_ofNat'] at h2
  omega
theorem fullF_at : ∀ (n j : Nat), n ≤ 256 → j < 256 → fullF n (fKey j) = if j < n then some (j : Int) else none
  | 0, j, _, _ => by rw [if_neg (by omega)]; rfl
  | n + 1, j, hn, hj => by
    show upd (fullF n) (fKey n) (some (n : Int)) (fKey j) = _
    unfold upd
    by_cases e : j = n
    · subst e; rw [if_pos rfl, if_pos (by omega)]
    · rw [if_neg (fun h => e (fKey_inj hj (by omega) h)), fullF_at n j (by omega) hj]
      by_cases h : j < n
      · rw [if_pos h, if_pos (by omega)]
      · rw [if_neg h, if_neg (by omega)]
theorem fullF_more : ∀ n, fullF n ⟨#[109, 111, 114, 101]⟩ = none
  | 0 => rfl
  | n + 1 => by
    show upd (fullF n) (fKey n) (some (n : Int)) _ = _
    unfold upd
    rw [if_neg (by unfold fKey; intro h; have h1 := congrArg ByteArray.size h; simp [ByteArray.size] at h1), fullF_more n]
theorem conv2 (x y : Int) (W : World) : (convert 59 9 (.slice (some ⟨W.heap.size, 0, none⟩) 2 2)).run Try.prog (W.alloc (.cells #[.int .u8 x, .int .u8 y] 5)) = .ok (.string ⟨#[UInt8.ofNat x.toNat, UInt8.ofNat y.toNat]⟩) (W.alloc (.cells #[.int .u8 x, .int .u8 y] 5)) := by
  have hb := blk_new W (.cells #[.int .u8 x, .int .u8 y] 5)
  exact run_convert_bytes_arg (P := Try.prog) (W.alloc (.cells #[.int .u8 x, .int .u8 y] 5)) 59 5 Try.underlying59 Try.underlying5 W.heap.size 0 2 2 [x, y] rfl (fun i hi => by
    rcases (show i = 0 ∨ i = 1 by omega) with rfl | rfl
    · exact (blk_cell hb 0).trans rfl
    · exact (blk_cell hb 1).trans rfl) 9 Try.underlying9
theorem u8_mod (m : Nat) : UInt8.ofNat ((m : Int) % 256).toNat = UInt8.ofNat m := by
  have h : ((m : Int) % 256).toNat = m % 2 ^ 8 := by omega
  rw [h, UInt8.ofNat_mod_size]
theorem fKey_conv (j : Nat) (hj : j < 64) (W : World) : (convert 59 9 (.slice (some ⟨W.heap.size, 0, none⟩) 2 2)).run Try.prog (W.alloc (.cells #[.int .u8 ((j : Int) % 256), .int .u8 (wrap64 (7 * (j : Int)) % 256)] 5)) = .ok (.string (fKey j)) (W.alloc (.cells #[.int .u8 ((j : Int) % 256), .int .u8 (wrap64 (7 * (j : Int)) % 256)] 5)) := by
  have w7 : wrap64 (7 * (j : Int)) = 7 * (j : Int) := by unfold wrap64; omega
  rw [w7]
  have h7 : 7 * (j : Int) = ((7 * j : Nat) : Int) := by omega
  rw [conv2, u8_mod, h7, u8_mod]
  rfl
def sandglasslaw05_RobinFull.f (a0 a1 : Int) : Option Bool := some true
set_option maxRecDepth 100000 in
set_option maxHeartbeats 4000000 in
theorem sandglasslaw05_RobinFull.calls (a0 a1 : Int) (r : Bool) (w : World) (h : sandglasslaw05_RobinFull.f a0 a1 = some r) :
    Calls Try.prog 7 #[.int .u64 a0, .int .i64 a1] w fun e w' => e = .returned (.bool r) ∧ Below w.heap.size w w' := by
  obtain rfl := Option.some.inj h
  clear h
  by_cases h1 : a1 < 1
  · have d1 : decide (a1 < 1) = true := decide_eq_true h1
    go_enter Try.func7, Try.ntmps7
    go_wp2_with (go_at_call 11; refine (sandglasslaw05_live.calls _).mono ?_; rintro e w1 ⟨rfl, hb⟩)
    go_ret
    exact ⟨rfl, hb⟩
  have d1 : decide (a1 < 1) = false := decide_eq_false h1
  by_cases h2 : 6 < a1
  · have d2 : decide (6 < a1) = true := decide_eq_true h2
    go_enter Try.func7, Try.ntmps7
    go_wp2_with (go_at_call 11; refine (sandglasslaw05_live.calls _).mono ?_; rintro e w1 ⟨rfl, hb⟩)
    go_ret
    exact ⟨rfl, hb⟩
  have d2 : decide (6 < a1) = false := decide_eq_false h2
  obtain ⟨b, rfl⟩ : ∃ b : Nat, a1 = (b : Int) := ⟨a1.toNat, by omega⟩
  have hb0 : 1 ≤ b := by omega
  have hb6 : b ≤ 6 := by omega
  obtain ⟨n, hn⟩ : ∃ n, 2 ^ b = n := ⟨_, rfl⟩
  have hp : n ≤ 64 := by
    have := Nat.pow_le_pow_right (show 0 < 2 by omega) hb6
    omega
  have hp2 : 2 ≤ n := by
    have := Nat.pow_le_pow_right (show 0 < 2 by omega) hb0
    omega
  have hni : (2 : Int) ^ b = (n : Int) := by rw [← hn]; simp
  have hw2 : wrap64 ((2 : Int) ^ b) = (n : Int) := by
    rw [hni]; unfold wrap64; omega
  have HNI := Aside0.mk hni
  have HN := Aside0.mk (tt_new a0 b w hb0 (by omega))
  clear hni h1 h2
  go_enter Try.func7, Try.ntmps7
  go_wp2_with (go_at_call 12; refine HN.out.mono ?_; rintro e w1 ⟨rfl, ht, hb⟩; have HT := Aside0.mk ht; have HB := Aside0.mk hb; clear ht hb)
  rw [hw2]
  go_loopw [8] (fun v8 w' => ∃ j : Nat, v8 = .int .i64 j ∧ Aside0 (j ≤ n) ∧ Aside0 (TT (w.heap.size + 1) w.heap.size a0 b (j : Int) (fullF j) w') ∧ Aside0 (Below w.heap.size w w')) (fun v8 _ => n - (intOf v8).toNat)
  case atStart => exact ⟨0, rfl, ⟨Nat.zero_le _⟩, HT, HB⟩
  case round =>
    clear HT HB
    obtain ⟨j, rfl, HJ, HT, HB⟩ := hrel
    by_cases hj : j < n
    · have d3 : decide (j < n) = true := decide_eq_true hj
      have HLT := Aside0.mk hj
      have hcv := fKey_conv j (by omega)
      have hr := (HT.out).rng
      clear hj
      have hpf : putF b (fullF j) j (fKey j) j = (0, (j : Int) + 1, fullF (j + 1)) := by
        unfold putF
        rw [if_neg (by show ¬ ((2 : Nat) = 0 ∨ 2 > 33); omega), fullF_at j j (by have := HLT.out; omega) (by have := HLT.out; omega), if_neg (by omega)]
        show (if (j : Int) = 2 ^ b then _ else _) = _
        rw [if_neg (by rw [HNI.out]; have := HLT.out; omega)]
        rfl
      have HPF := Aside0.mk hpf
      clear hpf hr
      have dw : wrap64 ((j : Int) + 1) = (j : Int) + 1 := by have := HLT.out; unfold wrap64; omega
      have DW := Aside0.mk dw
      clear dw
      have HBx := Aside0.mk (HB.out.alloc (HB.out.size) (.cells #[.int .u8 ((j : Int) % 256), .int .u8 (wrap64 (7 * (j : Int)) % 256)] 5))
      go_wp2_with (go_at_call 21; refine (tt_put (HT.out.alloc _) (fKey j) _ (by show (2 : Nat) ≤ _; decide) HPF.out).mono ?_; rintro e w2 ⟨rfl, ht, hf⟩)
      have hlt := HLT.out
      have dw := DW.out
      refine ⟨⟨j + 1, by rw [dw]; rfl, ⟨by omega⟩, ⟨ht⟩, ⟨HBx.out.trans (hf.below (fun q hq => by omega) (by have := HBx.out.size; omega))⟩⟩, ?_⟩
      rw [dw]
      simp only [intOf]
      omega
    · obtain rfl : j = n := by have := HJ.out; omega
      have d3 : decide (j < j) = false := decide_eq_false hj
      clear hj HJ
      have hh := HNI.out
      go_upto_region 12 with (fail)
      go_wp2
      go_loopw [9, 10, 11] (fun v9 v10 v11 w' => ∃ i : Nat, v9 = .int .i64 i ∧ Aside0 (i ≤ j) ∧ Aside0 (TT (w.heap.size + 1) w.heap.size a0 b (j : Int) (fullF j) w') ∧ Aside0 (Below w.heap.size w w')) (fun v9 _ _ _ => j - (intOf v9).toNat)
      case atStart => exact ⟨0, rfl, ⟨Nat.zero_le _⟩, HT, HB⟩
      case round =>
        clear HT HB
        obtain ⟨i, rfl, HJ, HT, HB⟩ := hrel
        by_cases hj : i < j
        · have d3 : decide (i < j) = true := decide_eq_true hj
          have HLT := Aside0.mk hj
          have hcv := fKey_conv i (by omega)
          have hgf : getF (fullF j) (fKey i) = ((i : Int), true) := by
            unfold getF
            rw [fullF_at j i (by omega) (by omega), if_pos hj]
          have HGF := Aside0.mk hgf
          have dw : wrap64 ((i : Int) + 1) = (i : Int) + 1 := by unfold wrap64; omega
          have DW := Aside0.mk dw
          have HBx := Aside0.mk (HB.out.alloc (HB.out.size) (.cells #[.int .u8 ((i : Int) % 256), .int .u8 (wrap64 (7 * (i : Int)) % 256)] 5))
          clear hj hgf dw
          go_wp2_with (go_at_call 25; refine (tt_get (HT.out.alloc _) (fKey i) (by show (2 : Nat) ≤ _; decide) HGF.out).mono ?_; rintro e w2 ⟨rfl, ht, hf⟩; have HF := Aside0.mk hf; have HT2 := Aside0.mk ht; clear ht hf)
          have hlt := HLT.out
          have dw := DW.out
          refine ⟨⟨i + 1, by rw [dw]; rfl, ⟨by omega⟩, HT2, ⟨HBx.out.trans (HF.out.mono (by have := HBx.out.size; omega))⟩⟩, ?_⟩
          rw [dw]
          simp only [intOf]
          omega
        · obtain rfl : i = j := by have := HJ.out; omega
          have d3 : decide (i < i) = false := decide_eq_false hj
          clear hj HJ
          have hp1 : putF b (fullF i) i ⟨#[109, 111, 114, 101]⟩ 1 = (4, (i : Int), fullF i) := by
            unfold putF
            rw [if_neg (by show ¬ ((4 : Nat) = 0 ∨ 4 > 33); omega), fullF_more]
            show (if (i : Int) = 2 ^ b then _ else _) = _
            rw [if_pos HNI.out.symm]
          have hp2 : putF b (fullF i) i ⟨#[1, 7]⟩ 99 = (0, (i : Int), upd (fullF i) ⟨#[1, 7]⟩ (some 99)) := by
            unfold putF
            rw [if_neg (by show ¬ ((2 : Nat) = 0 ∨ 2 > 33); omega), show (⟨#[1, 7]⟩ : ByteArray) = fKey 1 from rfl, fullF_at i 1 (by omega) (by omega), if_pos (by omega)]
          have HP1 := Aside0.mk hp1
          have HP2 := Aside0.mk hp2
          clear hp1 hp2
          have HLV := Aside0.mk @sandglasslaw05_live.calls
          go_upto_region 18 with (fail)
          go_wp2_with (first | (go_at_call 21; refine (tt_put HT2.out ⟨#[1, 7]⟩ 99 (by show (2 : Nat) ≤ _; decide) HP2.out).mono ?_; rintro e w3 ⟨rfl, ht, hf⟩; have HT3 := Aside0.mk ht; have HF3 := Aside0.mk hf; clear ht hf) | (go_at_call 21; refine (tt_put HT.out ⟨#[109, 111, 114, 101]⟩ 1 (by show (4 : Nat) ≤ _; decide) HP1.out).mono ?_; rintro e w2 ⟨rfl, ht, hf⟩; have HT2 := Aside0.mk ht; have HF2 := Aside0.mk hf; clear ht hf) | (go_at_call 15; refine (tt_len HT3.out).mono ?_; rintro e w4 ⟨rfl, hw⟩; obtain rfl : w3 = w4 := hw.symm) | (go_at_call 11; refine (HLV.out w3).mono ?_; rintro e w5 ⟨rfl, hb⟩; have HB5 := Aside0.mk hb; clear hb))
          go_ret
          refine ⟨rfl, ?_⟩
          have b1 := HB.out.trans (HF2.out.below (B := w.heap.size) (fun q hq => by omega) HB.out.size)
          have b2 := b1.trans (HF3.out.below (B := w.heap.size) (fun q hq => by omega) b1.size)
          exact b2.trans (HB5.out.mono b2.size)
end Go.Proofs.Ytonafabgbkohlaa.Q
