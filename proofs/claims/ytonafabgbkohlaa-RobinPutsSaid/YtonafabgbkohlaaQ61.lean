/- RobinPuts: its walk. -/
import Derived.Test.YtonafabgbkohlaaRobinLd
import Derived.Test.YtonafabgbkohlaaRobinLe
import Derived.Test.YtonafabgbkohlaaQ19
import Derived.RegionTactic
import Derived.ChangeAlike
import Derived.Deep.RegionWith
namespace Go.Proofs.Ytonafabgbkohlaa.Q
open Go.RowKit Go.Proofs.Ytonafabgbkohlaa.Zip Go.Proofs.YtonafabgbkohlaaW.PrintWords Go.Proofs.YtonafabgbkohlaaW.PrintLast Go.Proofs.YtonafabgbkohlaaW.PrintMore Go.Proofs.Ytonafabgbkohlaa.La
set_option linter.unusedVariables false
set_option linter.unusedSimpArgs false
def BX (g : Nat) (x0 : Int) (x1 : ByteArray) (x2 y0 : Int) (y1 : ByteArray) (y2 : Int) (W : World) : Prop := W.heap[g]? = some (.cells #[.int .i64 x0, .string x1, .int .i64 x2, .int .i64 y0, .string y1, .int .i64 y2] 56 (0, 0))
theorem BX.below {g : Nat} {x0 : Int} {x1 : ByteArray} {x2 y0 : Int} {y1 : ByteArray} {y2 : Int} {W W' : World} (h : BX g x0 x1 x2 y0 y1 y2 W) (hb : Below W.heap.size W W') : BX g x0 x1 x2 y0 y1 y2 W' := blk_below h hb
theorem BX.fr {g : Nat} {x0 : Int} {x1 : ByteArray} {x2 y0 : Int} {y1 : ByteArray} {y2 : Int} {W W' : World} {S : Nat → Prop} (h : BX g x0 x1 x2 y0 y1 y2 W) (hb : Fr S W W') (hS : ¬ S g) : BX g x0 x1 x2 y0 y1 y2 W' := hb.blk h hS
theorem BX.cells {g : Nat} {x0 : Int} {x1 : ByteArray} {x2 y0 : Int} {y1 : ByteArray} {y2 : Int} {W : World} (h : BX g x0 x1 x2 y0 y1 y2 W) : W.cell? ⟨g, 1, none⟩ = some (.string x1) ∧ W.cell? ⟨g, 2, none⟩ = some (.int .i64 x2) ∧ W.cell? ⟨g, 4, none⟩ = some (.string y1) :=
  ⟨(blk_cell h 1).trans rfl, (blk_cell h 2).trans rfl, (blk_cell h 4).trans rfl⟩
def sandglasslaw05_RobinPuts.f (a0 : Int) (l1 : List S35) (a2_0_0 : Int) (a2_0_1 : ByteArray) (a2_0_2 a2_1_0 : Int) (a2_1_1 : ByteArray) (a2_1_2 : Int) : Option Bool := some true
set_option maxRecDepth 100000 in
set_option maxHeartbeats 4000000 in
theorem sandglasslaw05_RobinPuts.calls (a0 : Int) (A1 : Option Addr) (c1 : Nat) (l1 : List S35) (a2_0_0 : Int) (a2_0_1 : ByteArray) (a2_0_2 : Int) (a2_1_0 : Int) (a2_1_1 : ByteArray) (a2_1_2 : Int) (r : Bool) (w : World) (hr1 : Kd.C k35 w A1 l1.length l1) (hc1 : l1.length ≤ c1) (h : sandglasslaw05_RobinPuts.f a0 l1 a2_0_0 a2_0_1 a2_0_2 a2_1_0 a2_1_1 a2_1_2 = some r) :
    Calls Try.prog 6 #[.int .u64 a0, .slice A1 l1.length c1, .agg #[.int .i64 a2_0_0, .string a2_0_1, .int .i64 a2_0_2, .int .i64 a2_1_0, .string a2_1_1, .int .i64 a2_1_2]] w fun e w' => e = .returned (.bool r) ∧ Below w.heap.size w w' := by
  obtain rfl := Option.some.inj h
  have HR := Aside0.mk hr1
  clear h hr1
  have HLV := Aside0.mk @sandglasslaw05_live.calls
  obtain ⟨rf, hrf⟩ : ∃ rf, fewB l1 60 = rf := ⟨_, rfl⟩
  have HFW := Aside0.mk hrf
  go_enter Try.func6, Try.ntmps6
  go_upto_region 1 with (fail)
  obtain ⟨W0, hW0⟩ : ∃ W0, w.alloc (.cells #[.int .i64 a2_0_0, .string a2_0_1, .int .i64 a2_0_2, .int .i64 a2_1_0, .string a2_1_1, .int .i64 a2_1_2] 56) = W0 := ⟨_, rfl⟩
  rw [hW0]
  have HBX := Aside0.mk (show BX w.heap.size a2_0_0 a2_0_1 a2_0_2 a2_1_0 a2_1_1 a2_1_2 W0 from by rw [← hW0]; exact blk_new w _)
  have HB := Aside0.mk (show Below w.heap.size w W0 from by rw [← hW0]; exact (Below.refl w.heap.size w).alloc (Nat.le_refl _) _)
  have HS := Aside0.mk (show W0.heap.size = w.heap.size + 1 from by rw [← hW0]; simp)
  clear hW0 hrf
  obtain ⟨n0, hn0⟩ : ∃ n0, w.heap.size = n0 := ⟨_, rfl⟩
  have HN0 := Aside0.mk hn0
  rw [hn0] at HBX ⊢
  clear hn0
  obtain ⟨n1, hn1⟩ : ∃ n1, W0.heap.size = n1 := ⟨_, rfl⟩
  have HN1 := Aside0.mk hn1
  have HN := tt_new a0 5 W0 (by decide) (by decide)
  rw [hn1] at HN
  have HNN := Aside0.mk HN
  clear hn1 HN
  go_upto_region 2 with (go_at_call 12; refine HNN.out.mono ?_; rintro e w1 ⟨rfl, ht, hb⟩; have HT := Aside0.mk ht; replace HBX := Aside0.mk (HBX.out.below (by rw [HN1.out]; exact hb)); replace HB := Aside0.mk (HB.out.trans (hb.mono (by have := HS.out; have := HN1.out; omega))); clear ht hb)
  clear HNN
  obtain ⟨xa1, xa2, xb1⟩ := HBX.out.cells
  by_cases hg : rf = false
  · subst hg
    go_wp2_with (first | (go_at_call 10; refine (few_calls A1 c1 l1 60 w1 (Kd.C_below HR.out HB.out) (by decide) _ HFW.out).mono ?_; rintro e w2 ⟨rfl, hb⟩; have HB2 := Aside0.mk hb; clear hb) | (go_at_call 11; refine (HLV.out w2).mono ?_; rintro e w5 ⟨rfl, hb⟩; have HB5 := Aside0.mk hb; clear hb))
    go_ret
    exact ⟨rfl, HB.out.trans ((HB2.out.trans (HB5.out.mono HB2.out.size)).mono HB.out.size)⟩
  obtain rfl : rf = true := by cases rf <;> simp at hg ⊢
  clear hg
  have HNE := Aside0.mk (show w.heap.size = n0 ∧ n1 = n0 + 1 from ⟨HN0.out, by have := HN0.out; have := HN1.out; have := HS.out; omega⟩)
  by_cases hk0 : 100 < a2_0_1.size
  · have d0 : decide (100 < a2_0_1.size) = true := decide_eq_true hk0
    have d0i : decide ((100 : Int) < (a2_0_1.size : Int)) = true := decide_eq_true (by omega)
    clear hk0
    go_wp2_with (first | (go_at_call 10; refine (few_calls A1 c1 l1 60 w1 (Kd.C_below HR.out HB.out) (by decide) _ HFW.out).mono ?_; rintro e w2 ⟨rfl, hb⟩; replace HT := Aside0.mk (HT.out.below hb); clear xa1 xa2 xb1; replace HBX := Aside0.mk (HBX.out.below hb); obtain ⟨xa1, xa2, xb1⟩ := HBX.out.cells; replace HB := Aside0.mk (HB.out.trans (hb.mono HB.out.size)); clear hb) | (go_at_call 11; refine (HLV.out w2).mono ?_; rintro e w5 ⟨rfl, hb⟩; have HB5 := Aside0.mk hb; clear hb))
    go_ret
    exact ⟨rfl, HB.out.trans (HB5.out.mono HB.out.size)⟩
  have d0 : decide (100 < a2_0_1.size) = false := decide_eq_false hk0
  have d0i : decide ((100 : Int) < (a2_0_1.size : Int)) = false := decide_eq_false (by omega)
  by_cases hk1 : 100 < a2_1_1.size
  · have d1 : decide (100 < a2_1_1.size) = true := decide_eq_true hk1
    have d1i : decide ((100 : Int) < (a2_1_1.size : Int)) = true := decide_eq_true (by omega)
    clear hk0 hk1
    go_wp2_with (first | (go_at_call 10; refine (few_calls A1 c1 l1 60 w1 (Kd.C_below HR.out HB.out) (by decide) _ HFW.out).mono ?_; rintro e w2 ⟨rfl, hb⟩; replace HT := Aside0.mk (HT.out.below hb); clear xa1 xa2 xb1; replace HBX := Aside0.mk (HBX.out.below hb); obtain ⟨xa1, xa2, xb1⟩ := HBX.out.cells; replace HB := Aside0.mk (HB.out.trans (hb.mono HB.out.size)); clear hb) | (go_at_call 11; refine (HLV.out w2).mono ?_; rintro e w5 ⟨rfl, hb⟩; have HB5 := Aside0.mk hb; clear hb))
    go_ret
    exact ⟨rfl, HB.out.trans (HB5.out.mono HB.out.size)⟩
  have d1 : decide (100 < a2_1_1.size) = false := decide_eq_false hk1
  have d1i : decide ((100 : Int) < (a2_1_1.size : Int)) = false := decide_eq_false (by omega)
  have HK0 := Aside0.mk (show a2_0_1.size ≤ 4611686018427387904 by omega)
  have HK1 := Aside0.mk (show a2_1_1.size ≤ 4611686018427387904 by omega)
  have HFT := Aside0.mk (fewB_true HFW.out)
  clear hk0 hk1
  go_upto_region 4 with (go_at_call 10; refine (few_calls A1 c1 l1 60 w1 (Kd.C_below HR.out HB.out) (by decide) _ HFW.out).mono ?_; rintro e w2 ⟨rfl, hb⟩; replace HT := Aside0.mk (HT.out.below hb); clear xa1 xa2 xb1; replace HBX := Aside0.mk (HBX.out.below hb); obtain ⟨xa1, xa2, xb1⟩ := HBX.out.cells; replace HB := Aside0.mk (HB.out.trans (hb.mono HB.out.size)); clear hb)
  clear d0 d0i d1 d1i xa1 xa2 xb1
  go_upto_region 6 with (fail)
  go_wp2
  go_loopw [9] (fun v9 w' => ∃ (i : Nat) (u : Int) (f : KF), v9 = .int .i64 i ∧ Aside0 (i ≤ l1.length ∧ KeyOk f) ∧ Aside0 (TT (n1 + 1) n1 a0 5 u f w') ∧ Aside0 (BX n0 a2_0_0 a2_0_1 a2_0_2 a2_1_0 a2_1_1 a2_1_2 w') ∧ Aside0 (Below w.heap.size w w')) (fun v9 _ => l1.length - (intOf v9).toNat)
  case atStart => exact ⟨0, 0, _, rfl, ⟨Nat.zero_le _, KeyOk.none⟩, HT, HBX, HB⟩
  case round =>
    clear HT HBX HB
    obtain ⟨i, u, f, rfl, HI, HT, HBX, HB⟩ := hrel
    by_cases hlt : i < l1.length
    · have d2 : decide (i < l1.length) = true := decide_eq_true hlt
      have HLT := Aside0.mk hlt
      obtain ⟨ad, ea, y0, y1, y2⟩ := at_T35 (Kd.C_below HR.out HB.out) (i : Int) (by omega) (by omega)
      subst ea
      simp only [Int.toNat_natCast] at y0 y1 y2
      have hsz := HFT.out.2 i hlt
      obtain ⟨key, hkey⟩ : ∃ key, (rd_T35 l1 (i : Int)).f1 = key := ⟨_, rfl⟩
      obtain ⟨val, hval⟩ : ∃ val, (rd_T35 l1 (i : Int)).f2 = val := ⟨_, rfl⟩
      rw [hkey] at y1 hsz
      rw [hval] at y2
      have HSZ := Aside0.mk (show key.size ≤ 4611686018427387904 by omega)
      obtain ⟨e0, u', f', hp⟩ : ∃ e0 u' f', putF 5 f u key val = (e0, u', f') := ⟨_, _, _, rfl⟩
      have HP := Aside0.mk hp
      have DW := Aside0.mk (show wrap64 ((i : Int) + 1) = (i : Int) + 1 by have := HFT.out.1; unfold wrap64; omega)
      have y1d : wr.drew.cell? ⟨(ad.add (i * 3)).block, (ad.add (i * 3)).off + 1, none⟩ = some (.string key) := y1
      have y2d : wr.drew.cell? ⟨(ad.add (i * 3)).block, (ad.add (i * 3)).off + 2, none⟩ = some (.int .i64 val) := y2
      have q0 := eq_true (show (0 : Int) ≤ (i : Int) by omega)
      have q1 := eq_true (show (i : Int) < (l1.length : Int) by omega)
      have q2 := eq_true hlt
      clear hlt hsz hp
      go_upto_region 9 with (fail)
      go_region_with (go_at_call 21; refine (tt_put HT.out.drew key val HSZ.out HP.out).mono ?_; rintro e w3 ⟨rfl, ht, hf⟩; have HT3 := Aside0.mk ht; have HF3 := Aside0.mk hf; clear ht hf y0 y1 y2 y1d y2d)
      all_goals
        go_wp2
        have HB3 := (below_drew HB.out).trans (HF3.out.below (fun q hq => by have := HNE.out; omega) HB.out.size)
        refine ⟨⟨i + 1, u', f', by rw [DW.out]; rfl, ⟨by have := HLT.out; omega, HI.out.2.put HP.out⟩, HT3, ⟨(HBX.out.below (below_drew (Below.refl _ _))).fr HF3.out (by have := HNE.out; omega)⟩, ⟨HB3⟩⟩, ?_⟩
        rw [DW.out]
        simp only [intOf]
        have := HLT.out
        omega
    · obtain rfl : i = l1.length := by have := HI.out.1; omega
      have d2 : decide (l1.length < l1.length) = false := decide_eq_false hlt
      have HKO := Aside0.mk HI.out.2
      clear hlt HI
      have hus := HT.out.rng
      obtain ⟨was, had, hG1⟩ : ∃ was had, getF f a2_1_1 = (was, had) := ⟨_, _, rfl⟩
      obtain ⟨x, there, hG2⟩ : ∃ x there, getF f a2_0_1 = (x, there) := ⟨_, _, rfl⟩
      obtain ⟨ef, u', f', hP⟩ : ∃ ef u' f', putF 5 f u a2_0_1 a2_0_2 = (ef, u', f') := ⟨_, _, _, rfl⟩
      have HG1 := Aside0.mk hG1
      have HG2 := Aside0.mk hG2
      have HP := Aside0.mk hP
      have HUS := Aside0.mk hus
      obtain ⟨xa1, xa2, xb1⟩ := HBX.out.cells
      clear hG1 hG2 hP hus
      go_upto_region 10 with (fail)
      go_upto_region 11 with (go_at_call 25; refine (tt_get HT.out a2_1_1 HK1.out HG1.out).mono ?_; rintro e w3 ⟨rfl, ht, hb⟩; replace HT := Aside0.mk ht; clear xa1 xa2 xb1; replace HBX := Aside0.mk (HBX.out.below hb); obtain ⟨xa1, xa2, xb1⟩ := HBX.out.cells; replace HB := Aside0.mk (HB.out.trans (hb.mono HB.out.size)); clear ht hb)
      go_upto_region 12 with (go_at_call 15; refine (tt_len HT.out).mono ?_; rintro e w4 ⟨rfl, hw⟩; obtain rfl : w3 = w4 := hw.symm)
      go_upto_region 13 with (go_at_call 25; refine (tt_get HT.out a2_0_1 HK0.out HG2.out).mono ?_; rintro e w5 ⟨rfl, ht, hb⟩; replace HT := Aside0.mk ht; clear xa1 xa2 xb1; replace HBX := Aside0.mk (HBX.out.below hb); obtain ⟨xa1, xa2, xb1⟩ := HBX.out.cells; replace HB := Aside0.mk (HB.out.trans (hb.mono HB.out.size)); clear ht hb)
      go_upto_region 14 with (go_at_call 21; refine (tt_put HT.out a2_0_1 a2_0_2 HK0.out HP.out).mono ?_; rintro e w6 ⟨rfl, ht, hf⟩; replace HT := Aside0.mk ht; clear xa1 xa2 xb1; replace HBX := Aside0.mk (HBX.out.fr hf (by have := HNE.out; omega)); obtain ⟨xa1, xa2, xb1⟩ := HBX.out.cells; replace HB := Aside0.mk (HB.out.trans (hf.below (fun q hq => by have := HNE.out; omega) HB.out.size)); clear ht hf)
      have WU := Aside0.mk (show wrap64 u = u ∧ wrap64 (u + 1) = u + 1 ∧ wrap64 (u - 1) = u - 1 by have := HUS.out; refine ⟨?_, ?_, ?_⟩ <;> unfold wrap64 <;> omega)
      by_cases he : ef = 0
      case neg =>
        obtain ⟨rfl, rfl, hn⟩ := putF_no HKO.out HP.out he
        obtain ⟨rfl, rfl⟩ : x = 0 ∧ there = false := by
          have := HG2.out
          unfold getF at this
          rw [hn] at this
          cases this
          exact ⟨rfl, rfl⟩
        have de : (ef != 0) = true := by simpa using he
        clear hn he
        go_upto_region 15 with (go_at_call 25; refine (tt_get HT.out a2_1_1 HK1.out HG1.out).mono ?_; rintro e w7 ⟨rfl, ht, hb⟩; replace HT := Aside0.mk ht; clear xa1 xa2 xb1; replace HBX := Aside0.mk (HBX.out.below hb); obtain ⟨xa1, xa2, xb1⟩ := HBX.out.cells; replace HB := Aside0.mk (HB.out.trans (hb.mono HB.out.size)); clear ht hb)
        go_wp2_with (first | (go_at_call 15; refine (tt_len HT.out).mono ?_; rintro e w8 ⟨rfl, hw⟩; obtain rfl : w7 = w8 := hw.symm) | (go_at_call 11; refine (HLV.out w7).mono ?_; rintro e w9 ⟨rfl, hb⟩; have HB5 := Aside0.mk hb; clear hb))
        go_ret
        exact ⟨rfl, HB.out.trans (HB5.out.mono HB.out.size)⟩
      subst he
      obtain ⟨rfl, hu'⟩ := putF_yes HP.out
      rw [HG2.out] at hu'
      simp only [] at hu'
      obtain ⟨wu0, wu1, wu2⟩ := WU.out
      have HG4 := Aside0.mk (getF_self f a2_0_1 a2_0_2)
      have HG5 := Aside0.mk (getF_gone (upd f a2_0_1 (some a2_0_2)) a2_0_1)
      have hD : delF (upd f a2_0_1 (some a2_0_2)) u' a2_0_1 = (true, u' - 1, upd (upd f a2_0_1 (some a2_0_2)) a2_0_1 none) := by
        unfold delF; simp [upd]
      have HD0 := Aside0.mk hD
      clear hD
      by_cases hkk : a2_0_1 = a2_1_1
      · subst hkk
        cases there
        case false =>
          obtain rfl : u' = u + 1 := by simpa using hu'
          have HD := Aside0.mk (show delF (upd f a2_0_1 (some a2_0_2)) (u + 1) a2_0_1 = (true, u, _) from by have := HD0.out; rwa [show u + 1 - 1 = u by omega] at this)
          clear HD0 hu'
          go_upto_region 15 with (go_at_call 25; refine (tt_get HT.out a2_0_1 HK0.out HG4.out).mono ?_; rintro e w7 ⟨rfl, ht, hb⟩; replace HT := Aside0.mk ht; clear xa1 xa2 xb1; replace HBX := Aside0.mk (HBX.out.below hb); obtain ⟨xa1, xa2, xb1⟩ := HBX.out.cells; replace HB := Aside0.mk (HB.out.trans (hb.mono HB.out.size)); clear ht hb)
          go_upto_region 18 with (go_at_call 25; refine (tt_get HT.out a2_0_1 HK0.out HG4.out).mono ?_; rintro e w8 ⟨rfl, ht, hb⟩; replace HT := Aside0.mk ht; clear xa1 xa2 xb1; replace HBX := Aside0.mk (HBX.out.below hb); obtain ⟨xa1, xa2, xb1⟩ := HBX.out.cells; replace HB := Aside0.mk (HB.out.trans (hb.mono HB.out.size)); clear ht hb)
          go_upto_region 21 with (fail)
          go_upto_region 23 with (go_at_call 15; refine (tt_len HT.out).mono ?_; rintro e w9 ⟨rfl, hw⟩; obtain rfl : w8 = w9 := hw.symm)
          go_upto_region 24 with (go_at_call 22; refine (tt_del HT.out a2_0_1 HK0.out HD.out).mono ?_; rintro e w10 ⟨rfl, ht, hf⟩; replace HT := Aside0.mk ht; clear xa1 xa2 xb1; replace HBX := Aside0.mk (HBX.out.fr hf (by have := HNE.out; omega)); obtain ⟨xa1, xa2, xb1⟩ := HBX.out.cells; replace HB := Aside0.mk (HB.out.trans (hf.below (fun q hq => by have := HNE.out; omega) HB.out.size)); clear ht hf)
          go_upto_region 25 with (go_at_call 25; refine (tt_get HT.out a2_0_1 HK0.out HG5.out).mono ?_; rintro e w11 ⟨rfl, ht, hb⟩; replace HT := Aside0.mk ht; clear xa1 xa2 xb1; replace HBX := Aside0.mk (HBX.out.below hb); obtain ⟨xa1, xa2, xb1⟩ := HBX.out.cells; replace HB := Aside0.mk (HB.out.trans (hb.mono HB.out.size)); clear ht hb)
          go_upto_region 26 with (go_at_call 25; refine (tt_get HT.out a2_0_1 HK0.out HG5.out).mono ?_; rintro e w12 ⟨rfl, ht, hb⟩; replace HT := Aside0.mk ht; clear xa1 xa2 xb1; replace HBX := Aside0.mk (HBX.out.below hb); obtain ⟨xa1, xa2, xb1⟩ := HBX.out.cells; replace HB := Aside0.mk (HB.out.trans (hb.mono HB.out.size)); clear ht hb)
          go_wp2_with (first | (go_at_call 15; refine (tt_len HT.out).mono ?_; rintro e w13 ⟨rfl, hw⟩; obtain rfl : w12 = w13 := hw.symm) | (go_at_call 11; refine (HLV.out w12).mono ?_; rintro e w14 ⟨rfl, hb⟩; have HB5 := Aside0.mk hb; clear hb))
          all_goals
            go_ret
            exact ⟨rfl, HB.out.trans (HB5.out.mono HB.out.size)⟩
        case true =>
          obtain rfl : u = u' := by simpa using hu'.symm
          have HD := Aside0.mk (show delF (upd f a2_0_1 (some a2_0_2)) (u) a2_0_1 = (true, u - 1, _) from by have := HD0.out; rwa [show u - 1 = u - 1 by omega] at this)
          clear HD0 hu'
          go_upto_region 15 with (go_at_call 25; refine (tt_get HT.out a2_0_1 HK0.out HG4.out).mono ?_; rintro e w7 ⟨rfl, ht, hb⟩; replace HT := Aside0.mk ht; clear xa1 xa2 xb1; replace HBX := Aside0.mk (HBX.out.below hb); obtain ⟨xa1, xa2, xb1⟩ := HBX.out.cells; replace HB := Aside0.mk (HB.out.trans (hb.mono HB.out.size)); clear ht hb)
          go_upto_region 18 with (go_at_call 25; refine (tt_get HT.out a2_0_1 HK0.out HG4.out).mono ?_; rintro e w8 ⟨rfl, ht, hb⟩; replace HT := Aside0.mk ht; clear xa1 xa2 xb1; replace HBX := Aside0.mk (HBX.out.below hb); obtain ⟨xa1, xa2, xb1⟩ := HBX.out.cells; replace HB := Aside0.mk (HB.out.trans (hb.mono HB.out.size)); clear ht hb)
          go_upto_region 21 with (fail)
          go_upto_region 23 with (go_at_call 15; refine (tt_len HT.out).mono ?_; rintro e w9 ⟨rfl, hw⟩; obtain rfl : w8 = w9 := hw.symm)
          go_upto_region 24 with (go_at_call 22; refine (tt_del HT.out a2_0_1 HK0.out HD.out).mono ?_; rintro e w10 ⟨rfl, ht, hf⟩; replace HT := Aside0.mk ht; clear xa1 xa2 xb1; replace HBX := Aside0.mk (HBX.out.fr hf (by have := HNE.out; omega)); obtain ⟨xa1, xa2, xb1⟩ := HBX.out.cells; replace HB := Aside0.mk (HB.out.trans (hf.below (fun q hq => by have := HNE.out; omega) HB.out.size)); clear ht hf)
          go_upto_region 25 with (go_at_call 25; refine (tt_get HT.out a2_0_1 HK0.out HG5.out).mono ?_; rintro e w11 ⟨rfl, ht, hb⟩; replace HT := Aside0.mk ht; clear xa1 xa2 xb1; replace HBX := Aside0.mk (HBX.out.below hb); obtain ⟨xa1, xa2, xb1⟩ := HBX.out.cells; replace HB := Aside0.mk (HB.out.trans (hb.mono HB.out.size)); clear ht hb)
          go_upto_region 26 with (go_at_call 25; refine (tt_get HT.out a2_0_1 HK0.out HG5.out).mono ?_; rintro e w12 ⟨rfl, ht, hb⟩; replace HT := Aside0.mk ht; clear xa1 xa2 xb1; replace HBX := Aside0.mk (HBX.out.below hb); obtain ⟨xa1, xa2, xb1⟩ := HBX.out.cells; replace HB := Aside0.mk (HB.out.trans (hb.mono HB.out.size)); clear ht hb)
          go_wp2_with (first | (go_at_call 15; refine (tt_len HT.out).mono ?_; rintro e w13 ⟨rfl, hw⟩; obtain rfl : w12 = w13 := hw.symm) | (go_at_call 11; refine (HLV.out w12).mono ?_; rintro e w14 ⟨rfl, hb⟩; have HB5 := Aside0.mk hb; clear hb))
          all_goals
            go_ret
            exact ⟨rfl, HB.out.trans (HB5.out.mono HB.out.size)⟩
      · have dk : (a2_0_1 != a2_1_1) = true := ba_bne2 hkk
        have dk2 : (a2_0_1 == a2_1_1) = false := ba_bne hkk
        have HG3 := Aside0.mk ((getF_ne f (some a2_0_2) (fun h => hkk h.symm)).trans HG1.out : getF (upd f a2_0_1 (some a2_0_2)) a2_1_1 = _)
        have HG6 := Aside0.mk ((getF_ne (upd f a2_0_1 (some a2_0_2)) none (fun h => hkk h.symm)).trans HG3.out : getF (upd (upd f a2_0_1 (some a2_0_2)) a2_0_1 none) a2_1_1 = _)
        cases there
        case false =>
          obtain rfl : u' = u + 1 := by simpa using hu'
          have HD := Aside0.mk (show delF (upd f a2_0_1 (some a2_0_2)) (u + 1) a2_0_1 = (true, u, _) from by have := HD0.out; rwa [show u + 1 - 1 = u by omega] at this)
          clear HD0 hu'
          go_upto_region 15 with (go_at_call 25; refine (tt_get HT.out a2_1_1 HK1.out HG3.out).mono ?_; rintro e w7 ⟨rfl, ht, hb⟩; replace HT := Aside0.mk ht; clear xa1 xa2 xb1; replace HBX := Aside0.mk (HBX.out.below hb); obtain ⟨xa1, xa2, xb1⟩ := HBX.out.cells; replace HB := Aside0.mk (HB.out.trans (hb.mono HB.out.size)); clear ht hb)
          go_upto_region 18 with (go_at_call 25; refine (tt_get HT.out a2_0_1 HK0.out HG4.out).mono ?_; rintro e w8 ⟨rfl, ht, hb⟩; replace HT := Aside0.mk ht; clear xa1 xa2 xb1; replace HBX := Aside0.mk (HBX.out.below hb); obtain ⟨xa1, xa2, xb1⟩ := HBX.out.cells; replace HB := Aside0.mk (HB.out.trans (hb.mono HB.out.size)); clear ht hb)
          go_upto_region 21 with (fail)
          go_upto_region 23 with (go_at_call 15; refine (tt_len HT.out).mono ?_; rintro e w9 ⟨rfl, hw⟩; obtain rfl : w8 = w9 := hw.symm)
          go_upto_region 24 with (go_at_call 22; refine (tt_del HT.out a2_0_1 HK0.out HD.out).mono ?_; rintro e w10 ⟨rfl, ht, hf⟩; replace HT := Aside0.mk ht; clear xa1 xa2 xb1; replace HBX := Aside0.mk (HBX.out.fr hf (by have := HNE.out; omega)); obtain ⟨xa1, xa2, xb1⟩ := HBX.out.cells; replace HB := Aside0.mk (HB.out.trans (hf.below (fun q hq => by have := HNE.out; omega) HB.out.size)); clear ht hf)
          go_upto_region 25 with (go_at_call 25; refine (tt_get HT.out a2_0_1 HK0.out HG5.out).mono ?_; rintro e w11 ⟨rfl, ht, hb⟩; replace HT := Aside0.mk ht; clear xa1 xa2 xb1; replace HBX := Aside0.mk (HBX.out.below hb); obtain ⟨xa1, xa2, xb1⟩ := HBX.out.cells; replace HB := Aside0.mk (HB.out.trans (hb.mono HB.out.size)); clear ht hb)
          go_upto_region 26 with (go_at_call 25; refine (tt_get HT.out a2_1_1 HK1.out HG6.out).mono ?_; rintro e w12 ⟨rfl, ht, hb⟩; replace HT := Aside0.mk ht; clear xa1 xa2 xb1; replace HBX := Aside0.mk (HBX.out.below hb); obtain ⟨xa1, xa2, xb1⟩ := HBX.out.cells; replace HB := Aside0.mk (HB.out.trans (hb.mono HB.out.size)); clear ht hb)
          go_wp2_with (first | (go_at_call 15; refine (tt_len HT.out).mono ?_; rintro e w13 ⟨rfl, hw⟩; obtain rfl : w12 = w13 := hw.symm) | (go_at_call 11; refine (HLV.out w12).mono ?_; rintro e w14 ⟨rfl, hb⟩; have HB5 := Aside0.mk hb; clear hb))
          all_goals
            go_ret
            exact ⟨rfl, HB.out.trans (HB5.out.mono HB.out.size)⟩
        case true =>
          obtain rfl : u = u' := by simpa using hu'.symm
          have HD := Aside0.mk (show delF (upd f a2_0_1 (some a2_0_2)) (u) a2_0_1 = (true, u - 1, _) from by have := HD0.out; rwa [show u - 1 = u - 1 by omega] at this)
          clear HD0 hu'
          go_upto_region 15 with (go_at_call 25; refine (tt_get HT.out a2_1_1 HK1.out HG3.out).mono ?_; rintro e w7 ⟨rfl, ht, hb⟩; replace HT := Aside0.mk ht; clear xa1 xa2 xb1; replace HBX := Aside0.mk (HBX.out.below hb); obtain ⟨xa1, xa2, xb1⟩ := HBX.out.cells; replace HB := Aside0.mk (HB.out.trans (hb.mono HB.out.size)); clear ht hb)
          go_upto_region 18 with (go_at_call 25; refine (tt_get HT.out a2_0_1 HK0.out HG4.out).mono ?_; rintro e w8 ⟨rfl, ht, hb⟩; replace HT := Aside0.mk ht; clear xa1 xa2 xb1; replace HBX := Aside0.mk (HBX.out.below hb); obtain ⟨xa1, xa2, xb1⟩ := HBX.out.cells; replace HB := Aside0.mk (HB.out.trans (hb.mono HB.out.size)); clear ht hb)
          go_upto_region 21 with (fail)
          go_upto_region 23 with (go_at_call 15; refine (tt_len HT.out).mono ?_; rintro e w9 ⟨rfl, hw⟩; obtain rfl : w8 = w9 := hw.symm)
          go_upto_region 24 with (go_at_call 22; refine (tt_del HT.out a2_0_1 HK0.out HD.out).mono ?_; rintro e w10 ⟨rfl, ht, hf⟩; replace HT := Aside0.mk ht; clear xa1 xa2 xb1; replace HBX := Aside0.mk (HBX.out.fr hf (by have := HNE.out; omega)); obtain ⟨xa1, xa2, xb1⟩ := HBX.out.cells; replace HB := Aside0.mk (HB.out.trans (hf.below (fun q hq => by have := HNE.out; omega) HB.out.size)); clear ht hf)
          go_upto_region 25 with (go_at_call 25; refine (tt_get HT.out a2_0_1 HK0.out HG5.out).mono ?_; rintro e w11 ⟨rfl, ht, hb⟩; replace HT := Aside0.mk ht; clear xa1 xa2 xb1; replace HBX := Aside0.mk (HBX.out.below hb); obtain ⟨xa1, xa2, xb1⟩ := HBX.out.cells; replace HB := Aside0.mk (HB.out.trans (hb.mono HB.out.size)); clear ht hb)
          go_upto_region 26 with (go_at_call 25; refine (tt_get HT.out a2_1_1 HK1.out HG6.out).mono ?_; rintro e w12 ⟨rfl, ht, hb⟩; replace HT := Aside0.mk ht; clear xa1 xa2 xb1; replace HBX := Aside0.mk (HBX.out.below hb); obtain ⟨xa1, xa2, xb1⟩ := HBX.out.cells; replace HB := Aside0.mk (HB.out.trans (hb.mono HB.out.size)); clear ht hb)
          go_wp2_with (first | (go_at_call 15; refine (tt_len HT.out).mono ?_; rintro e w13 ⟨rfl, hw⟩; obtain rfl : w12 = w13 := hw.symm) | (go_at_call 11; refine (HLV.out w12).mono ?_; rintro e w14 ⟨rfl, hb⟩; have HB5 := Aside0.mk hb; clear hb))
          all_goals
            go_ret
            exact ⟨rfl, HB.out.trans (HB5.out.mono HB.out.size)⟩
end Go.Proofs.Ytonafabgbkohlaa.Q
