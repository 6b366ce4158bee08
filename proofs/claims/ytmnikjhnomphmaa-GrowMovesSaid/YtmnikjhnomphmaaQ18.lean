-- Laid by wip/tools/hprint.py, a program of this repo, over the kit's print; not a text of print.sh.
import Derived.Test.YtmnikjhnomphmaaQ0
import Derived.Test.YtmnikjhnomphmaaQ2
import Derived.Test.YtmnikjhnomphmaaQ8
import Derived.Test.YtmnikjhnomphmaaQ9
import Derived.Test.YtmnikjhnomphmaaQ16
import Derived.Test.YtmnikjhnomphmaaQ17
namespace Go.Proofs.Ytmnikjhnomphmaa.Q
open Go.RowKit Go.Proofs.Ytmnikjhnomphmaa.Zip Go.Proofs.YtmnikjhnomphmaaW.PrintWords Go.Proofs.YtmnikjhnomphmaaW.PrintLast Go.Proofs.YtmnikjhnomphmaaW.PrintMore
attribute [local go_sem] max2_int min2_int max_two min_two max_three min_three max_four min_four   -- for this text's walks alone
set_option linter.unusedVariables false
set_option linter.unusedSimpArgs false

/-! ### robin_Table_Delete: given by hand -/
/-- Slots behind one that is emptied move up. -/
def delL : Nat → List S84 → Nat → Option (List S84 × Nat)
  | 0, _, _ => none
  | k + 1, l, i => if (rd_T84 l (((i + 1) % l.length : Nat) : Int)).f0 = false then some (l, i) else if (rd_T84 l (((i + 1) % l.length : Nat) : Int)).f3 = 0 then some (l, i) else delL k (l.set i ⟨(rd_T84 l (((i + 1) % l.length : Nat) : Int)).f0, (rd_T84 l (((i + 1) % l.length : Nat) : Int)).f1, (rd_T84 l (((i + 1) % l.length : Nat) : Int)).f2, wrap64 ((rd_T84 l (((i + 1) % l.length : Nat) : Int)).f3 - 1)⟩) ((i + 1) % l.length)
def delT (k : Nat) (sd : Int) (b : Nat) (l : List S84) (us : Int) (key : ByteArray) : Option (List S84 × Int × Bool) := match findT sd b l key with
  | none => some (l, us, false)
  | some i => (delL k l i).map fun p => (p.1.set p.2 zeroS, wrap64 (us - 1), true)
def robin_Table_Delete.f (k : Nat) : Option Int := some 0
theorem robin_Table_Delete.calls_nil (key : ByteArray) (w : World) : Calls Try.prog 38 #[.pointer none, .string key] w fun e w' => e = .returned (.bool false) ∧ w' = w := by
  go_enter Try.func38, Try.ntmps38
  go_wp2_with (go_at_call 46; refine (robin_Table_find.calls_nil key _).mono ?_; rintro e w1 ⟨rfl, rfl⟩)
  go_ret
  exact ⟨rfl, rfl⟩
set_option maxHeartbeats 2000000 in
theorem robin_Table_Delete.calls (k g gs : Nat) (sd us : Int) (b : Nat) (l : List S84) (key : ByteArray) (l' : List S84) (us' : Int) (r : Bool) (w : World) (ht : Tab g gs sd (b : Int) l us w) (hl : l.length = 2 ^ b) (h0 : 1 ≤ b) (h1 : b ≤ 8) (hk : key.size ≤ 4611686018427387904) (h : delT k sd b l us key = some (l', us', r)) :
    Calls Try.prog 38 #[.pointer (some ⟨g, 0, none⟩), .string key] w fun e w' => e = .returned (.bool r) ∧ Tab g gs sd (b : Int) l' us' w' ∧ l'.length = l.length ∧ Fr (fun q => q = g ∨ q = gs) w w' := by
  have HT := Aside0.mk ht
  have HL := Aside0.mk hl
  obtain ⟨l1, l2⟩ := len_pow hl h1
  have L3 := Aside0.mk (show 2 ≤ l.length by
    have := Nat.pow_le_pow_right (show 0 < 2 by omega) h0
    rw [hl]; simpa using this)
  unfold delT at h
  have FF := robin_Table_find.calls g gs sd us b l key w ht hl h0 h1 hk
  obtain ⟨R, hR⟩ : ∃ R, findT sd b l key = R := ⟨_, rfl⟩
  have HR := Aside0.mk hR
  rw [hR] at FF h
  have HF := Aside0.mk FF
  clear hR FF ht hl hk
  cases R with
  | none =>
    simp only [Option.some.injEq, Prod.mk.injEq] at h
    obtain ⟨rfl, rfl, rfl⟩ := h
    go_enter Try.func38, Try.ntmps38
    go_wp2_with (go_at_call 46; refine HF.out.mono ?_; rintro e w1 ⟨rfl, hb⟩; have HB := Aside0.mk hb; clear hb)
    go_ret
    exact ⟨rfl, HT.out.below HB.out, (by first | rfl | trivial), Fr.of_below HB.out _⟩
  | some i0 =>
    simp only at h
    have hi0 := Aside0.mk (findL_lt (show 0 < l.length by omega) HR.out)
    obtain ⟨⟨m, j⟩, hm, h⟩ := Option.map_eq_some_iff.1 h
    simp only [Prod.mk.injEq] at h
    obtain ⟨rfl, rfl, rfl⟩ := h
    have H := Aside0.mk hm
    clear hm
    go_enter Try.func38, Try.ntmps38
    go_wp2_with (go_at_call 46; refine HF.out.mono ?_; rintro e w1 ⟨rfl, hb⟩; have HB := Aside0.mk (Fr.of_below hb (fun q => q = g ∨ q = gs)); replace HT := Aside0.mk (HT.out.below hb); clear hb)
    go_loopg [5] k (fun kq v5 w' => ∃ (lq : List S84) (i : Nat), v5 = .int .i64 (i : Int) ∧ Aside0 (delL kq lq i = some (m, j)) ∧ Aside0 (i < lq.length ∧ lq.length = l.length) ∧ Aside0 (Tab g gs sd (b : Int) lq us w') ∧ Aside0 (Fr (fun q => q = g ∨ q = gs) w w'))
    case atStart => exact ⟨l, i0, rfl, H, ⟨hi0.out, rfl⟩, HT, HB⟩
    case round =>
      clear H HT HB
      obtain ⟨lq, i, rfl, HA, HI, HT, HR⟩ := hrel
      cases gk with
      | zero => exact absurd HA.out (by simp [delL])
      | succ k1 =>
        have H := HA.out
        clear HA
        simp only [delL] at H
        have hi := HI.out.1
        have HLn := Aside0.mk (HI.out.2.trans HL.out)
        have HMn := Aside0.mk (show i ≤ 100000 by have := HI.out; omega)
        obtain ⟨i2, hi2⟩ : ∃ i2, (i + 1) % lq.length = i2 := ⟨_, rfl⟩
        have hl2 : i2 < lq.length := by rw [← hi2]; exact Nat.mod_lt _ (by omega)
        have hne2 : i ≠ i2 := by
          rw [← hi2]
          have := L3.out; have := HI.out.2
          by_cases e : i + 1 = lq.length
          · rw [e, Nat.mod_self]; omega
          · rw [Nat.mod_eq_of_lt (by omega)]; omega
        rw [hi2] at H
        have HI2 := Aside0.mk hi2
        clear hi2
        obtain ⟨x0, x1, x2, x3⟩ := HT.out.cell (rdT_at hi)
        obtain ⟨y0, y1, y2, y3⟩ := HT.out.cell (rdT_at hl2)
        have c2 : wr.cell? ⟨g, 2, none⟩ = some (.slice (some ⟨gs, 0, none⟩) lq.length lq.length) := (blk_cell HT.out.hd 2).trans rfl
        have c3 : wr.cell? ⟨g, 3, none⟩ = some (.int .i64 us) := (blk_cell HT.out.hd 3).trans rfl
        have f3 : wr.frozen? ⟨g, 3, none⟩ = false := HT.out.frg 3
        have z0 : wr.frozen? ⟨gs, i * 4, none⟩ = false := HT.out.frz _
        have z1 : wr.frozen? ⟨gs, i * 4 + 1, none⟩ = false := HT.out.frz _
        have z2 : wr.frozen? ⟨gs, i * 4 + 2, none⟩ = false := HT.out.frz _
        have z3 : wr.frozen? ⟨gs, i * 4 + 3, none⟩ = false := HT.out.frz _
        obtain ⟨x0d, x1d, x2d, x3d⟩ := HT.out.drew.cell (rdT_at hi)
        obtain ⟨y0d, y1d, y2d, y3d⟩ := HT.out.drew.cell (rdT_at hl2)
        have c2d : wr.drew.cell? ⟨g, 2, none⟩ = some (.slice (some ⟨gs, 0, none⟩) lq.length lq.length) := (blk_cell HT.out.hd 2).trans rfl
        have z0d : wr.drew.frozen? ⟨gs, i * 4, none⟩ = false := HT.out.frz _
        have z1d : wr.drew.frozen? ⟨gs, i * 4 + 1, none⟩ = false := HT.out.frz _
        have z2d : wr.drew.frozen? ⟨gs, i * 4 + 2, none⟩ = false := HT.out.frz _
        have z3d : wr.drew.frozen? ⟨gs, i * 4 + 3, none⟩ = false := HT.out.frz _
        have n1 : g ≠ gs := fun e => HT.out.ne e.symm
        have n2 : gs ≠ g := HT.out.ne
        by_cases hu : (rd_T84 lq (i2 : Int)).f0 = false
        · rw [if_pos hu] at H
          simp only [Option.some.injEq, Prod.mk.injEq] at H
          obtain ⟨rfl, rfl⟩ := H
          rw [hu] at y0 y0d
          go_wp2_with (go_at_call 47; refine (robin_Table_at.calls g gs sd (b : Int) us lq b i 1 _ HT.out HLn.out h1 HMn.out (by omega) i2 HI2.out).mono ?_; rintro e w4 ⟨rfl, hw⟩; obtain rfl : wr = w4 := hw.symm)
          go_ret
          exact ⟨rfl, (HT.out.setS hi zeroS).setU _, (by rw [List.length_set]; exact HI.out.2), ((((HR.out.set ⟨gs, i * 4, none⟩ (Or.inl (Or.inr rfl)) _).set ⟨gs, i * 4 + 1, none⟩ (Or.inl (Or.inr rfl)) _).set ⟨gs, i * 4 + 2, none⟩ (Or.inl (Or.inr rfl)) _).set ⟨gs, i * 4 + 3, none⟩ (Or.inl (Or.inr rfl)) _).set ⟨g, 3, none⟩ (Or.inl (Or.inl rfl)) _⟩
        rw [if_neg hu] at H
        rw [Bool.not_eq_false] at hu
        rw [hu] at y0 y0d
        by_cases hd : (rd_T84 lq (i2 : Int)).f3 = 0
        · rw [if_pos hd] at H
          simp only [Option.some.injEq, Prod.mk.injEq] at H
          obtain ⟨rfl, rfl⟩ := H
          have d3 : ((rd_T84 lq (i2 : Int)).f3 == 0) = true := beq_iff_eq.mpr hd
          clear hd
          go_wp2_with (go_at_call 47; refine (robin_Table_at.calls g gs sd (b : Int) us lq b i 1 _ HT.out HLn.out h1 HMn.out (by omega) i2 HI2.out).mono ?_; rintro e w4 ⟨rfl, hw⟩; obtain rfl : wr = w4 := hw.symm)
          go_ret
          exact ⟨rfl, (HT.out.setS hi zeroS).setU _, (by rw [List.length_set]; exact HI.out.2), ((((HR.out.set ⟨gs, i * 4, none⟩ (Or.inl (Or.inr rfl)) _).set ⟨gs, i * 4 + 1, none⟩ (Or.inl (Or.inr rfl)) _).set ⟨gs, i * 4 + 2, none⟩ (Or.inl (Or.inr rfl)) _).set ⟨gs, i * 4 + 3, none⟩ (Or.inl (Or.inr rfl)) _).set ⟨g, 3, none⟩ (Or.inl (Or.inl rfl)) _⟩
        rw [if_neg hd] at H
        have d3 : ((rd_T84 lq (i2 : Int)).f3 == 0) = false := beq_eq_false_iff_ne.mpr hd
        clear hd
        have H' := Aside0.mk H
        clear H
        go_upto_region 5 with (go_at_call 47; refine (robin_Table_at.calls g gs sd (b : Int) us lq b i 1 _ HT.out HLn.out h1 HMn.out (by omega) i2 HI2.out).mono ?_; rintro e w4 ⟨rfl, hw⟩; obtain rfl : wr = w4 := hw.symm)
        go_upto_region 6 with (fail)
        go_region
        all_goals go_wp2
        rw [hu] at H'
        have TS := (HT.out.setS hi ⟨true, (rd_T84 lq (i2 : Int)).f1, (rd_T84 lq (i2 : Int)).f2, (rd_T84 lq (i2 : Int)).f3⟩).set3 (i := i) (s := ⟨true, (rd_T84 lq (i2 : Int)).f1, (rd_T84 lq (i2 : Int)).f2, (rd_T84 lq (i2 : Int)).f3⟩) (by rw [List.getElem?_set_self hi]) (wrap64 ((rd_T84 lq (i2 : Int)).f3 - 1))
        rw [List.set_set] at TS
        have HTn := Aside0.mk TS.drew
        clear TS
        go_roundg k1
        case measure => omega
        case rel => exact ⟨_, i2, rfl, H', ⟨by rw [List.length_set]; exact hl2, by rw [List.length_set]; exact HI.out.2⟩, HTn, ⟨(((((HR.out.set ⟨gs, i * 4, none⟩ (Or.inl (Or.inr rfl)) _).set ⟨gs, i * 4 + 1, none⟩ (Or.inl (Or.inr rfl)) _).set ⟨gs, i * 4 + 2, none⟩ (Or.inl (Or.inr rfl)) _).set ⟨gs, i * 4 + 3, none⟩ (Or.inl (Or.inr rfl)) _).set ⟨gs, i * 4 + 3, none⟩ (Or.inl (Or.inr rfl)) _).drew⟩⟩

end Go.Proofs.Ytmnikjhnomphmaa.Q
