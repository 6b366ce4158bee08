/- RobinFinds: its walk. -/
import Derived.Test.YtonafabgbkohlaaRobinLd
import Derived.Test.YtonafabgbkohlaaRobinLe
import Derived.Test.YtonafabgbkohlaaRobinLf
import Derived.Test.YtonafabgbkohlaaQ19
import Derived.Test.YtonafabgbkohlaaQ12
import Derived.RegionTactic
import Derived.ChangeAlike
import Derived.Deep.RegionWith
namespace Go.Proofs.Ytonafabgbkohlaa.Q
open Go.RowKit Go.Proofs.Ytonafabgbkohlaa.Zip Go.Proofs.YtonafabgbkohlaaW.PrintWords Go.Proofs.YtonafabgbkohlaaW.PrintLast Go.Proofs.YtonafabgbkohlaaW.PrintMore Go.Proofs.Ytonafabgbkohlaa.La
set_option linter.unusedVariables false
set_option linter.unusedSimpArgs false
def sandglasslaw05_RobinFinds.f (a0 : Int) (l1 : List S35) (a2 : ByteArray) : Option Bool := some true
set_option maxRecDepth 100000 in
set_option maxHeartbeats 4000000 in
theorem sandglasslaw05_RobinFinds.calls (a0 : Int) (A1 : Option Addr) (c1 : Nat) (l1 : List S35) (a2 : ByteArray) (r : Bool) (w : World) (hr1 : Kd.C k35 w A1 l1.length l1) (hc1 : l1.length ≤ c1) (h : sandglasslaw05_RobinFinds.f a0 l1 a2 = some r) :
    Calls Try.prog 5 #[.int .u64 a0, .slice A1 l1.length c1, .string a2] w fun e w' => e = .returned (.bool r) ∧ Below w.heap.size w w' := by
  obtain rfl := Option.some.inj h
  have HR := Aside0.mk hr1
  clear h hr1
  have HLV := Aside0.mk @sandglasslaw05_live.calls
  obtain ⟨rf, hrf⟩ : ∃ rf, fewB l1 60 = rf := ⟨_, rfl⟩
  have HFW := Aside0.mk hrf
  clear hrf
  have HN := tt_new a0 4 w (by decide) (by decide)
  obtain ⟨n0, hn0⟩ : ∃ n0, w.heap.size = n0 := ⟨_, rfl⟩
  have HN0 := Aside0.mk hn0
  rw [hn0] at HN
  have HNN := Aside0.mk HN
  clear hn0 HN
  go_enter Try.func5, Try.ntmps5
  go_upto_region 2 with (go_at_call 12; refine HNN.out.mono ?_; rintro e w1 ⟨rfl, ht, hb⟩; have HT := Aside0.mk ht; have HB := Aside0.mk (show Below w.heap.size w w1 by rw [HN0.out]; exact hb); clear ht hb)
  clear HNN
  by_cases hg : rf = false
  · subst hg
    go_wp2_with (first | (go_at_call 10; refine (few_calls A1 c1 l1 60 w1 (Kd.C_below HR.out HB.out) (by decide) _ HFW.out).mono ?_; rintro e w2 ⟨rfl, hb⟩; have HB2 := Aside0.mk hb; clear hb) | (go_at_call 11; refine (HLV.out w2).mono ?_; rintro e w5 ⟨rfl, hb⟩; have HB5 := Aside0.mk hb; clear hb))
    go_ret
    exact ⟨rfl, HB.out.trans ((HB2.out.trans (HB5.out.mono HB2.out.size)).mono HB.out.size)⟩
  obtain rfl : rf = true := by cases rf <;> simp at hg ⊢
  clear hg
  by_cases hk0 : 100 < a2.size
  · have d0 : decide (100 < a2.size) = true := decide_eq_true hk0
    have d0i : decide ((100 : Int) < (a2.size : Int)) = true := decide_eq_true (by omega)
    clear hk0
    go_wp2_with (first | (go_at_call 10; refine (few_calls A1 c1 l1 60 w1 (Kd.C_below HR.out HB.out) (by decide) _ HFW.out).mono ?_; rintro e w2 ⟨rfl, hb⟩; have HB2 := Aside0.mk hb; clear hb) | (go_at_call 11; refine (HLV.out w2).mono ?_; rintro e w5 ⟨rfl, hb⟩; have HB5 := Aside0.mk hb; clear hb))
    go_ret
    exact ⟨rfl, HB.out.trans ((HB2.out.trans (HB5.out.mono HB2.out.size)).mono HB.out.size)⟩
  have d0 : decide (100 < a2.size) = false := decide_eq_false hk0
  have d0i : decide ((100 : Int) < (a2.size : Int)) = false := decide_eq_false (by omega)
  have HK0 := Aside0.mk (show a2.size ≤ 100 by omega)
  have HFT := Aside0.mk (fewB_true HFW.out)
  clear hk0
  go_upto_region 4 with (go_at_call 10; refine (few_calls A1 c1 l1 60 w1 (Kd.C_below HR.out HB.out) (by decide) _ HFW.out).mono ?_; rintro e w2 ⟨rfl, hb⟩; replace HT := Aside0.mk (HT.out.below hb); replace HB := Aside0.mk (HB.out.trans (hb.mono HB.out.size)); clear hb)
  clear d0 d0i
  go_upto_region 6 with (fail)
  go_wp2
  go_loopw [9] (fun v9 w' => ∃ (i : Nat) (u : Int) (f : KF), v9 = .int .i64 i ∧ Aside0 (i ≤ l1.length ∧ KeyOk f) ∧ Aside0 (TT (n0 + 1) n0 a0 4 u f w') ∧ Aside0 (Below w.heap.size w w')) (fun v9 _ => l1.length - (intOf v9).toNat)
  case atStart => exact ⟨0, 0, _, rfl, ⟨Nat.zero_le _, KeyOk.none⟩, HT, HB⟩
  case round =>
    clear HT HB
    obtain ⟨i, u, f, rfl, HI, HT, HB⟩ := hrel
    by_cases hlt : i < l1.length
    · have d2 : decide (i < l1.length) = true := decide_eq_true hlt
      have HLT := Aside0.mk hlt
      obtain ⟨ad, ea, y0, y1, y2⟩ := at_T35 (Kd.C_below HR.out HB.out) (i : Int) (by omega) (by omega)
      subst ea
      simp only [Int.toNat_natCast] at y0 y1 y2
      have hsz := HFT.out.2 i hlt
      obtain ⟨dob, hdo⟩ : ∃ dob, (rd_T35 l1 (i : Int)).f0 = dob := ⟨_, rfl⟩
      obtain ⟨key, hkey⟩ : ∃ key, (rd_T35 l1 (i : Int)).f1 = key := ⟨_, rfl⟩
      obtain ⟨val, hval⟩ : ∃ val, (rd_T35 l1 (i : Int)).f2 = val := ⟨_, rfl⟩
      rw [hdo] at y0
      rw [hkey] at y1 hsz
      rw [hval] at y2
      have HSZ := Aside0.mk (show key.size ≤ 4611686018427387904 by omega)
      obtain ⟨e0, u', f', hp⟩ : ∃ e0 u' f', putF 4 f u key val = (e0, u', f') := ⟨_, _, _, rfl⟩
      obtain ⟨e1, u2, f2, hd⟩ : ∃ e1 u2 f2, delF f u key = (e1, u2, f2) := ⟨_, _, _, rfl⟩
      have HP := Aside0.mk hp
      have HD := Aside0.mk hd
      have DW := Aside0.mk (show wrap64 ((i : Int) + 1) = (i : Int) + 1 by have := HFT.out.1; unfold wrap64; omega)
      have q0 := eq_true (show (0 : Int) ≤ (i : Int) by omega)
      have q1 := eq_true (show (i : Int) < (l1.length : Int) by omega)
      have q2 := eq_true hlt
      have y1d : wr.drew.cell? ⟨(ad.add (i * 3)).block, (ad.add (i * 3)).off + 1, none⟩ = some (.string key) := y1
      have y2d : wr.drew.cell? ⟨(ad.add (i * 3)).block, (ad.add (i * 3)).off + 2, none⟩ = some (.int .i64 val) := y2
      clear hlt hsz hp hd
      by_cases h0 : dob = 0
      · subst h0
        go_upto_region 11 with (fail)
        go_region_with (go_at_call 21; refine (tt_put HT.out.drew key val HSZ.out HP.out).mono ?_; rintro e w3 ⟨rfl, ht, hf⟩; have HT3 := Aside0.mk ht; have HF3 := Aside0.mk hf; clear ht hf y0 y1 y2 y1d y2d)
        all_goals
          go_wp2
          have HB3 := (below_drew HB.out).trans (HF3.out.below (fun q hq => by have := HN0.out; omega) HB.out.size)
          refine ⟨⟨i + 1, u', f', by rw [DW.out]; rfl, ⟨by have := HLT.out; omega, HI.out.2.put HP.out⟩, HT3, ⟨HB3⟩⟩, ?_⟩
          rw [DW.out]
          simp only [intOf]
          have := HLT.out
          omega
      have b0 : (dob == 0) = false := by simpa using h0
      by_cases h2 : dob = 2
      · subst h2
        go_upto_region 13 with (fail)
        go_wp2_with (go_at_call 22; refine (tt_del HT.out key HSZ.out HD.out).mono ?_; rintro e w3 ⟨rfl, ht, hf⟩; have HT3 := Aside0.mk ht; have HF3 := Aside0.mk hf; clear ht hf y0 y1 y2 y1d y2d)
        have HB3 := HB.out.trans (HF3.out.below (fun q hq => by have := HN0.out; omega) HB.out.size)
        refine ⟨⟨i + 1, u2, f2, by rw [DW.out]; rfl, ⟨by have := HLT.out; omega, HI.out.2.del HD.out⟩, HT3, ⟨HB3⟩⟩, ?_⟩
        rw [DW.out]
        simp only [intOf]
        have := HLT.out
        omega
      have b2 : (dob == 2) = false := by simpa using h2
      clear h0 h2
      go_wp2
      refine ⟨⟨i + 1, u, f, by rw [DW.out]; rfl, ⟨by have := HLT.out; omega, HI.out.2⟩, HT, HB⟩, ?_⟩
      rw [DW.out]
      simp only [intOf]
      have := HLT.out
      omega
    · obtain rfl : i = l1.length := by have := HI.out.1; omega
      have d2 : decide (l1.length < l1.length) = false := decide_eq_false hlt
      clear hlt HI
      obtain ⟨l, ht, hf⟩ := HT.out
      have hl16 : l.length = 16 := hf.len
      obtain ⟨v, is, hG⟩ : ∃ v is, getF f a2 = (v, is) := ⟨_, _, rfl⟩
      have HG := Aside0.mk hG
      have HSC := Aside0.mk (hf.scan a2 hG)
      have HF := Aside0.mk hf
      have HS1 := Aside0.mk (robin_Table_Slots.calls (n0 + 1) n0 a0 ((4 : Nat) : Int) u l wr ht (by omega))
      have HL16 := Aside0.mk hl16
      have HS2 := Aside0.mk (sum_r 1100 a0 a2 (by have := HK0.out; omega) (by omega))
      have HS3 := Aside0.mk (home_r a0 4 a2 (by decide) (by decide))
      have HHL := Aside0.mk (homeN_lt a0 4 a2 (by decide) (by decide))
      clear ht hf hl16 hG
      go_upto_region 15 with (go_at_call 20; refine HS1.out.mono ?_; rintro e w3 ⟨v3, rfl, ho, hb⟩; obtain ⟨As, cs, rfl⟩ := Kd.R_slice ho; have HT3 := Aside0.mk (HT.out.below hb); have HB3 := Aside0.mk (HB.out.trans (hb.mono HB.out.size)); have HO := Aside0.mk (Kd.R_reads' ho).2.2; clear ho hb)
      rw [HL16.out]
      have HO2 := Aside0.mk (show Kd.C k52 w3 As 16 l from by have := HO.out; rwa [HL16.out] at this)
      clear HO HS1
      go_upto_region 18 with (first | (go_at_call 24; refine (sandglassref03_Sum.calls 1100 _ _ _ _ HS2.out).mono ?_; rintro e w4 ⟨rfl, hb⟩; have HD4 := Aside0.mk hb.below; clear hb) | (go_at_call 23; refine (sandglassref03_Home.calls 1 _ _ _ _ HS3.out).mono ?_; rintro e w5 ⟨rfl, hb⟩; have HD5 := Aside0.mk hb.below; clear hb))
      have HB45 := Aside0.mk (HD4.out.trans (HD5.out.mono HD4.out.size))
      have HT5 := Aside0.mk (HT3.out.below HB45.out)
      have HB5 := Aside0.mk (HB3.out.trans (HB45.out.mono HB3.out.size))
      have HO5 := Aside0.mk (Kd.C_below HO2.out HB45.out)
      clear HD4 HD5 HB45 HT3 HB3 HO2 HT HB HS2 HS3
      obtain ⟨hh, hhe⟩ : ∃ hh, homeN a0 4 a2 = hh := ⟨_, rfl⟩
      rw [hhe] at HSC HHL ⊢
      rw [HL16.out] at HSC
      clear hhe
      go_wp2
      go_loopw [12, 13, 14, 15] (fun v12 v13 v14 v15 w' => ∃ (fo : Bool) (va : Int) (d : Nat), v12 = .bool fo ∧ v13 = .int .i64 va ∧ v14 = .int .i64 d ∧ Aside0 (d ≤ 16 ∧ scan l a2 hh (16 - d) d fo va = (is, v)) ∧ Aside0 (Below w5.heap.size w5 w')) (fun _ _ v14 _ _ => 16 - (intOf v14).toNat)
      case atStart => exact ⟨false, 0, 0, rfl, rfl, rfl, ⟨Nat.zero_le _, HSC.out⟩, ⟨Below.refl _ _⟩⟩
      case round =>
        clear HSC
        obtain ⟨fo, va, d, rfl, rfl, rfl, HI, HQ⟩ := hrel
        by_cases hd : d < 16
        · have d3 : decide (d < 16) = true := decide_eq_true hd
          have d3i : decide ((d : Int) < 16) = true := decide_eq_true (by omega)
          have HD := Aside0.mk hd
          have hm : (hh + d) % 16 < 16 := Nat.mod_lt _ (by omega)
          obtain ⟨ad, ea, y0, y1, y2, y3⟩ := at_T52 (Kd.C_below HO5.out HQ.out) (((hh + d) % 16 : Nat) : Int) (by omega) (by omega)
          subst ea
          simp only [Int.toNat_natCast] at y0 y1 y2 y3
          have wm : wrap64 ((hh : Int) + (d : Int)) = ((hh + d : Nat) : Int) := by have := HHL.out; unfold wrap64; omega
          have DW := Aside0.mk (show wrap64 ((d : Int) + 1) = (d : Int) + 1 by unfold wrap64; omega)
          obtain ⟨x, hx⟩ : ∃ x, rd_T52 l (((hh + d) % 16 : Nat) : Int) = x := ⟨_, rfl⟩
          rw [hx] at y0 y1 y2 y3
          have hs := HI.out.2
          rw [show 16 - d = (16 - (d + 1)) + 1 by omega] at hs
          unfold scan at hs
          rw [HL16.out, show sl l ((hh + d) % 16) = x from hx] at hs
          have HSS := Aside0.mk hs
          have HQ2 := Aside0.mk (show ∀ o : Obj, Below w5.heap.size w5 (wr.alloc o) from fun o => HQ.out.alloc HQ.out.size o)
          clear hd hs hx hm
          by_cases hu : x.f0 = false
          · rw [hu] at y0
            obtain ⟨rfl, rfl⟩ : fo = is ∧ va = v := by have := HSS.out; rw [if_pos (Or.inl hu)] at this; cases this; exact ⟨rfl, rfl⟩
            clear hu
            have HQ3 := HQ2.out (.cells #[.bool false, .string x.f1, .int .i64 x.f2, .int .i64 x.f3] 52)
            go_upto_region 28 with (fail)
            have HTw := Aside0.mk (HT5.out.below HQ3)
            have HBw := Aside0.mk (HB5.out.trans ((HQ3).mono HB5.out.size))
            go_wp2_with (first | (go_at_call 25; refine (tt_get HTw.out a2 (by have := HK0.out; omega) HG.out).mono ?_; rintro e w6 ⟨rfl, ht, hb⟩; have HB6 := Aside0.mk hb; clear ht hb) | (go_at_call 11; refine (HLV.out w6).mono ?_; rintro e w7 ⟨rfl, hb⟩; have HB7 := Aside0.mk hb; clear hb))
            all_goals
              go_ret
              exact ⟨rfl, HBw.out.trans ((HB6.out.trans (HB7.out.mono HB6.out.size)).mono HBw.out.size)⟩
          obtain hu1 : x.f0 = true := by cases e : x.f0; exact absurd e hu; rfl
          rw [hu1] at y0
          have HQ3 := HQ2.out (.cells #[.bool true, .string x.f1, .int .i64 x.f2, .int .i64 x.f3] 52)
          by_cases h3 : x.f3 < (d : Int)
          · have d4 : decide (x.f3 < (d : Int)) = true := decide_eq_true h3
            obtain ⟨rfl, rfl⟩ : fo = is ∧ va = v := by have := HSS.out; rw [if_pos (Or.inr h3)] at this; cases this; exact ⟨rfl, rfl⟩
            clear hu h3 hu1
            go_upto_region 28 with (fail)
            have HTw := Aside0.mk (HT5.out.below HQ3)
            have HBw := Aside0.mk (HB5.out.trans ((HQ3).mono HB5.out.size))
            go_wp2_with (first | (go_at_call 25; refine (tt_get HTw.out a2 (by have := HK0.out; omega) HG.out).mono ?_; rintro e w6 ⟨rfl, ht, hb⟩; have HB6 := Aside0.mk hb; clear ht hb) | (go_at_call 11; refine (HLV.out w6).mono ?_; rintro e w7 ⟨rfl, hb⟩; have HB7 := Aside0.mk hb; clear hb))
            all_goals
              go_ret
              exact ⟨rfl, HBw.out.trans ((HB6.out.trans (HB7.out.mono HB6.out.size)).mono HBw.out.size)⟩
          have d4 : decide (x.f3 < (d : Int)) = false := decide_eq_false h3
          have se := str_eq x.f1 a2
          by_cases hk : x.f1 = a2
          · rw [decide_eq_true hk] at se
            have HSS2 := Aside0.mk (show scan l a2 hh (16 - (d + 1)) (d + 1) true x.f2 = (is, v) by have := HSS.out; rwa [if_neg (fun q => q.elim hu h3), if_pos hk] at this)
            clear hk hu h3 hu1
            go_wp2
            go_roundw
            case rel => exact ⟨true, x.f2, d + 1, rfl, rfl, by rw [DW.out]; rfl, ⟨by have := HD.out; omega, HSS2.out⟩, ⟨HQ3⟩⟩
            case measure => rw [DW.out]; simp only [intOf]; have := HD.out; omega
          · rw [decide_eq_false hk] at se
            have HSS2 := Aside0.mk (show scan l a2 hh (16 - (d + 1)) (d + 1) fo va = (is, v) by have := HSS.out; rwa [if_neg (fun q => q.elim hu h3), if_neg hk] at this)
            clear hk hu h3 hu1
            go_wp2
            go_roundw
            case rel => exact ⟨fo, va, d + 1, rfl, rfl, by rw [DW.out]; rfl, ⟨by have := HD.out; omega, HSS2.out⟩, ⟨HQ3⟩⟩
            case measure => rw [DW.out]; simp only [intOf]; have := HD.out; omega
        · obtain rfl : d = 16 := by have := HI.out.1; omega
          obtain ⟨rfl, rfl⟩ : fo = is ∧ va = v := by have := HI.out.2; unfold scan at this; cases this; exact ⟨rfl, rfl⟩
          clear hd
          have HTw := Aside0.mk (HT5.out.below HQ.out)
          have HBw := Aside0.mk (HB5.out.trans ((HQ.out).mono HB5.out.size))
          go_wp2_with (first | (go_at_call 25; refine (tt_get HTw.out a2 (by have := HK0.out; omega) HG.out).mono ?_; rintro e w6 ⟨rfl, ht, hb⟩; have HB6 := Aside0.mk hb; clear ht hb) | (go_at_call 11; refine (HLV.out w6).mono ?_; rintro e w7 ⟨rfl, hb⟩; have HB7 := Aside0.mk hb; clear hb))
          all_goals
            go_ret
            exact ⟨rfl, HBw.out.trans ((HB6.out.trans (HB7.out.mono HB6.out.size)).mono HBw.out.size)⟩
end Go.Proofs.Ytonafabgbkohlaa.Q
