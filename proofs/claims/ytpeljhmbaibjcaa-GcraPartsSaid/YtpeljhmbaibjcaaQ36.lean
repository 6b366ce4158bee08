-- Laid by wip/tools/hprint.py, a program of this repo, over the kit's print; not a text of print.sh.
import Derived.Test.YtpeljhmbaibjcaaQ0
import Derived.Test.YtpeljhmbaibjcaaQ1
import Derived.Test.YtpeljhmbaibjcaaQ3
import Derived.Test.YtpeljhmbaibjcaaQ19
import Derived.Test.YtpeljhmbaibjcaaQ22
import Derived.Test.YtpeljhmbaibjcaaQ25
import Derived.Test.YtpeljhmbaibjcaaQ27
import Derived.Test.YtpeljhmbaibjcaaQ30
namespace Go.Proofs.Ytpeljhmbaibjcaa.Q
open Go.RowKit Go.Proofs.Ytpeljhmbaibjcaa.Zip Go.Proofs.YtpeljhmbaibjcaaW.PrintWords Go.Proofs.YtpeljhmbaibjcaaW.PrintLast Go.Proofs.YtpeljhmbaibjcaaW.PrintMore
attribute [local go_sem] max2_int min2_int max_two min_two max_three min_three max_four min_four   -- for this text's walks alone
set_option linter.unusedVariables false
set_option linter.unusedSimpArgs false

attribute [local go_sem high] eqA32
/-! ### sandglasslaw10_GcraParts: function 7 -/
mutual
def sandglasslaw10_GcraParts.j0 : Nat → Bool → Int → Int → Int → Int → Int → Int → List Int → List (S57) → Int → Int → Int → Option (Bool)
  | 0, _, _, _, _, _, _, _, _, _, _, _, _ => none
  | k + 1, x53, x461000, x461001, x461002, x461003, x462000, x462001, x462002, x462003, x463000, x463001, x463002 => if x53 = true then ((sandglasslaw10_live.f k).bind fun t468 => (some t468)) else ((gcra_Ask.f k x461000 x461001 x461002 x461003 x462000 x462001 x462002 x462003 x463000 x463001).bind fun bt469 => ((gcra_Ask.f k x461000 x461001 x461002 x461003 bt469.1 bt469.2.1 bt469.2.2.1 bt469.2.2.2.1 x463000 x463002).bind fun bt483 => ((gcra_Ask.f k x461000 x461001 x461002 x461003 x462000 x462001 x462002 x462003 x463000 (wrap64 (x463001 + x463002))).bind fun bt497 => (if bt469.2.2.2.2.1 = true then (sandglasslaw10_GcraParts.j1 k bt483.2.2.2.2.1 bt483.1 bt483.2.1 bt483.2.2.1 bt483.2.2.2.1 bt483.2.2.2.2.1 bt483.2.2.2.2.2.1 bt483.2.2.2.2.2.2.1 bt483.2.2.2.2.2.2.2 bt497.1 bt497.2.1 bt497.2.2.1 bt497.2.2.2.1 bt497.2.2.2.2.1 bt497.2.2.2.2.2.1 bt497.2.2.2.2.2.2.1 bt497.2.2.2.2.2.2.2) else (sandglasslaw10_GcraParts.j1 k false bt483.1 bt483.2.1 bt483.2.2.1 bt483.2.2.2.1 bt483.2.2.2.2.1 bt483.2.2.2.2.2.1 bt483.2.2.2.2.2.2.1 bt483.2.2.2.2.2.2.2 bt497.1 bt497.2.1 bt497.2.2.1 bt497.2.2.2.1 bt497.2.2.2.2.1 bt497.2.2.2.2.2.1 bt497.2.2.2.2.2.2.1 bt497.2.2.2.2.2.2.2)))))
def sandglasslaw10_GcraParts.j1 : Nat → Bool → Int → Int → List Int → List (S57) → Bool → Int → Int → Int → Int → Int → List Int → List (S57) → Bool → Int → Int → Int → Option (Bool)
  | 0, _, _, _, _, _, _, _, _, _, _, _, _, _, _, _, _, _ => none
  | k + 1, x13, x496000, x496001, x496002, x496003, x497000, x497001, x497002, x497003, x510000, x510001, x510002, x510003, x511000, x511001, x511002, x511003 => if (x13 == x511000) = true then (if x13 = true then ((sandglassref10_Same.f k x496000 x496001 x496002 x496003 x510000 x510001 x510002 x510003).bind fun t511 => (if t511 = true then (if (x497000 == x511000 && (x497001 == x511001 && (x497002 == x511002 && (x497003 == x511003)))) = true then ((sandglasslaw10_live.f k).bind fun t512 => (some t512)) else (none)) else (none))) else ((sandglasslaw10_live.f k).bind fun t513 => (some t513))) else (none)
end
def sandglasslaw10_GcraParts.f (k : Nat) (a0_0 : Int) (a0_1 : Int) (a0_2 : Int) (a0_3 : Int) (a1_0 : Int) (a1_1 : Int) (l1_2 : List Int) (l1_3 : List (S57)) (a2_0 : Int) (a2_1 : Int) (a2_2 : Int) : Option (Bool) := (sandglassref10_Few.f a1_0 a1_1 l1_2 l1_3).bind fun t463 => (if t463 = true then ((sandglassref10_May.f k a0_0 a0_1 a0_2 a0_3 a1_0 a1_1 l1_2 l1_3).bind fun t464 => (if t464 = true then ((sandglassref09_Weighs.f a2_1).bind fun t465 => (if t465 = true then ((sandglassref09_Weighs.f a2_2).bind fun t466 => (if t466 = true then ((sandglassref09_Weighs.f (wrap64 (a2_1 + a2_2))).bind fun t467 => (if t467 = true then (if a2_0 < 0 then (sandglasslaw10_GcraParts.j0 k true a0_0 a0_1 a0_2 a0_3 a1_0 a1_1 l1_2 l1_3 a2_0 a2_1 a2_2) else (sandglasslaw10_GcraParts.j0 k (decide (a2_0 > 1099511627776)) a0_0 a0_1 a0_2 a0_3 a1_0 a1_1 l1_2 l1_3 a2_0 a2_1 a2_2)) else (sandglasslaw10_GcraParts.j0 k true a0_0 a0_1 a0_2 a0_3 a1_0 a1_1 l1_2 l1_3 a2_0 a2_1 a2_2))) else (sandglasslaw10_GcraParts.j0 k true a0_0 a0_1 a0_2 a0_3 a1_0 a1_1 l1_2 l1_3 a2_0 a2_1 a2_2))) else (sandglasslaw10_GcraParts.j0 k true a0_0 a0_1 a0_2 a0_3 a1_0 a1_1 l1_2 l1_3 a2_0 a2_1 a2_2))) else (sandglasslaw10_GcraParts.j0 k true a0_0 a0_1 a0_2 a0_3 a1_0 a1_1 l1_2 l1_3 a2_0 a2_1 a2_2))) else (sandglasslaw10_GcraParts.j0 k true a0_0 a0_1 a0_2 a0_3 a1_0 a1_1 l1_2 l1_3 a2_0 a2_1 a2_2))
theorem sandglasslaw10_GcraParts.mono_l : ∀ k, (∀ y0 y1 y2 y3 y4 y5 y6 y7 y8 y9 y10 y11, LeO (sandglasslaw10_GcraParts.j0 k y0 y1 y2 y3 y4 y5 y6 y7 y8 y9 y10 y11) (sandglasslaw10_GcraParts.j0 (k + 1) y0 y1 y2 y3 y4 y5 y6 y7 y8 y9 y10 y11)) ∧ (∀ y0 y1 y2 y3 y4 y5 y6 y7 y8 y9 y10 y11 y12 y13 y14 y15 y16, LeO (sandglasslaw10_GcraParts.j1 k y0 y1 y2 y3 y4 y5 y6 y7 y8 y9 y10 y11 y12 y13 y14 y15 y16) (sandglasslaw10_GcraParts.j1 (k + 1) y0 y1 y2 y3 y4 y5 y6 y7 y8 y9 y10 y11 y12 y13 y14 y15 y16))
  | 0 => ⟨fun _ _ _ _ _ _ _ _ _ _ _ _ r h => by simp [sandglasslaw10_GcraParts.j0] at h, fun _ _ _ _ _ _ _ _ _ _ _ _ _ _ _ _ _ r h => by simp [sandglasslaw10_GcraParts.j1] at h⟩
  | k + 1 => by
    obtain ⟨ih0, ih1⟩ := sandglasslaw10_GcraParts.mono_l k
    refine ⟨?_, ?_⟩
    · intro y0 y1 y2 y3 y4 y5 y6 y7 y8 y9 y10 y11
      unfold sandglasslaw10_GcraParts.j0
      repeat' first
      | (with_reducible exact ih0 _ _ _ _ _ _ _ _ _ _ _ _)
      | (with_reducible exact ih1 _ _ _ _ _ _ _ _ _ _ _ _ _ _ _ _ _)
      | (with_reducible exact gcra_Ask.mono _ _ _ _ _ _ _ _ _ _ _)
      | (with_reducible exact sandglasslaw10_live.mono _)
      | (with_reducible exact sandglassref10_May.mono _ _ _ _ _ _ _ _ _)
      | (with_reducible exact sandglassref10_Same.mono _ _ _ _ _ _ _ _ _)
      | (with_reducible exact LeO.refl _)
      | (with_reducible exact LeO.none _)
      | (with_reducible refine LeO.ite ?_ ?_)
      | (with_reducible refine LeO.bind ?_ (fun _ => ?_))
      | exact ih0 _ _ _ _ _ _ _ _ _ _ _ _
      | exact ih1 _ _ _ _ _ _ _ _ _ _ _ _ _ _ _ _ _
      | exact gcra_Ask.mono _ _ _ _ _ _ _ _ _ _ _
      | exact sandglasslaw10_live.mono _
      | exact sandglassref10_May.mono _ _ _ _ _ _ _ _ _
      | exact sandglassref10_Same.mono _ _ _ _ _ _ _ _ _
      | exact LeO.none _
      | refine LeO.ite ?_ ?_
      | refine LeO.bind ?_ (fun _ => ?_)
    · intro y0 y1 y2 y3 y4 y5 y6 y7 y8 y9 y10 y11 y12 y13 y14 y15 y16
      unfold sandglasslaw10_GcraParts.j1
      repeat' first
      | (with_reducible exact ih0 _ _ _ _ _ _ _ _ _ _ _ _)
      | (with_reducible exact ih1 _ _ _ _ _ _ _ _ _ _ _ _ _ _ _ _ _)
      | (with_reducible exact gcra_Ask.mono _ _ _ _ _ _ _ _ _ _ _)
      | (with_reducible exact sandglasslaw10_live.mono _)
      | (with_reducible exact sandglassref10_May.mono _ _ _ _ _ _ _ _ _)
      | (with_reducible exact sandglassref10_Same.mono _ _ _ _ _ _ _ _ _)
      | (with_reducible exact LeO.refl _)
      | (with_reducible exact LeO.none _)
      | (with_reducible refine LeO.ite ?_ ?_)
      | (with_reducible refine LeO.bind ?_ (fun _ => ?_))
      | exact ih0 _ _ _ _ _ _ _ _ _ _ _ _
      | exact ih1 _ _ _ _ _ _ _ _ _ _ _ _ _ _ _ _ _
      | exact gcra_Ask.mono _ _ _ _ _ _ _ _ _ _ _
      | exact sandglasslaw10_live.mono _
      | exact sandglassref10_May.mono _ _ _ _ _ _ _ _ _
      | exact sandglassref10_Same.mono _ _ _ _ _ _ _ _ _
      | exact LeO.none _
      | refine LeO.ite ?_ ?_
      | refine LeO.bind ?_ (fun _ => ?_)
theorem sandglasslaw10_GcraParts.mono : ∀ a0 a1 a2 a3 a4 a5 a6 a7 a8 a9 a10 k, LeO (sandglasslaw10_GcraParts.f k a0 a1 a2 a3 a4 a5 a6 a7 a8 a9 a10) (sandglasslaw10_GcraParts.f (k + 1) a0 a1 a2 a3 a4 a5 a6 a7 a8 a9 a10) := by
  intro a0 a1 a2 a3 a4 a5 a6 a7 a8 a9 a10 k
  obtain ⟨ih0, ih1⟩ := sandglasslaw10_GcraParts.mono_l k
  unfold sandglasslaw10_GcraParts.f
  repeat' first
      | (with_reducible exact ih0 _ _ _ _ _ _ _ _ _ _ _ _)
      | (with_reducible exact ih1 _ _ _ _ _ _ _ _ _ _ _ _ _ _ _ _ _)
      | (with_reducible exact gcra_Ask.mono _ _ _ _ _ _ _ _ _ _ _)
      | (with_reducible exact sandglasslaw10_live.mono _)
      | (with_reducible exact sandglassref10_May.mono _ _ _ _ _ _ _ _ _)
      | (with_reducible exact sandglassref10_Same.mono _ _ _ _ _ _ _ _ _)
      | (with_reducible exact LeO.refl _)
      | (with_reducible exact LeO.none _)
      | (with_reducible refine LeO.ite ?_ ?_)
      | (with_reducible refine LeO.bind ?_ (fun _ => ?_))
      | exact ih0 _ _ _ _ _ _ _ _ _ _ _ _
      | exact ih1 _ _ _ _ _ _ _ _ _ _ _ _ _ _ _ _ _
      | exact gcra_Ask.mono _ _ _ _ _ _ _ _ _ _ _
      | exact sandglasslaw10_live.mono _
      | exact sandglassref10_May.mono _ _ _ _ _ _ _ _ _
      | exact sandglassref10_Same.mono _ _ _ _ _ _ _ _ _
      | exact LeO.none _
      | refine LeO.ite ?_ ?_
      | refine LeO.bind ?_ (fun _ => ?_)
set_option maxHeartbeats 8000000 in
set_option maxRecDepth 100000 in
theorem sandglasslaw10_GcraParts.calls (k : Nat) (a0_0 : Int) (a0_1 : Int) (a0_2 : Int) (a0_3 : Int) (a1_0 : Int) (a1_1 : Int) (A1_2 : Option Addr) (c1_2 : Nat) (l1_2 : List Int) (A1_3 : Option Addr) (c1_3 : Nat) (l1_3 : List (S57)) (a2_0 : Int) (a2_1 : Int) (a2_2 : Int) (r : Bool) (w : World) (hr1_2 : Kd.C (Kd.int .i64) w A1_2 l1_2.length l1_2) (hc1_2 : l1_2.length ≤ c1_2) (hr1_3 : Kd.C k57 w A1_3 l1_3.length l1_3) (hc1_3 : l1_3.length ≤ c1_3) (h : sandglasslaw10_GcraParts.f k a0_0 a0_1 a0_2 a0_3 a1_0 a1_1 l1_2 l1_3 a2_0 a2_1 a2_2 = some r) :
    Calls Try.prog 7 #[.agg #[.int .i64 a0_0, .int .i64 a0_1, .int .i64 a0_2, .int .i64 a0_3], .agg #[.int .i64 a1_0, .int .i64 a1_1, .slice A1_2 l1_2.length c1_2, .slice A1_3 l1_3.length c1_3], .agg #[.int .i64 a2_0, .int .i64 a2_1, .int .i64 a2_2]] w fun e w' => e = .returned (.bool r) ∧ Below w.heap.size w w' := by
  have hu23 := Try.underlying23
  have hu27 := Try.underlying27
  have hu47 := Try.underlying47
  have hu32 := Try.underlying32
  have HR1_2 := Aside0.mk hr1_2
  have HC1_2 := Aside0.mk hc1_2
  clear hr1_2 hc1_2
  have HR1_3 := Aside0.mk hr1_3
  have HC1_3 := Aside0.mk hc1_3
  clear hr1_3 hc1_3
  have HB := Aside0.mk (Below.refl w.heap.size w)
  have H : ((sandglassref10_Few.f a1_0 a1_1 l1_2 l1_3).bind fun t463 => (if t463 = true then ((sandglassref10_May.f k a0_0 a0_1 a0_2 a0_3 a1_0 a1_1 l1_2 l1_3).bind fun t464 => (if t464 = true then ((sandglassref09_Weighs.f a2_1).bind fun t465 => (if t465 = true then ((sandglassref09_Weighs.f a2_2).bind fun t466 => (if t466 = true then ((sandglassref09_Weighs.f (wrap64 (a2_1 + a2_2))).bind fun t467 => (if t467 = true then (if a2_0 < 0 then (sandglasslaw10_GcraParts.j0 k true a0_0 a0_1 a0_2 a0_3 a1_0 a1_1 l1_2 l1_3 a2_0 a2_1 a2_2) else (sandglasslaw10_GcraParts.j0 k (decide (a2_0 > 1099511627776)) a0_0 a0_1 a0_2 a0_3 a1_0 a1_1 l1_2 l1_3 a2_0 a2_1 a2_2)) else (sandglasslaw10_GcraParts.j0 k true a0_0 a0_1 a0_2 a0_3 a1_0 a1_1 l1_2 l1_3 a2_0 a2_1 a2_2))) else (sandglasslaw10_GcraParts.j0 k true a0_0 a0_1 a0_2 a0_3 a1_0 a1_1 l1_2 l1_3 a2_0 a2_1 a2_2))) else (sandglasslaw10_GcraParts.j0 k true a0_0 a0_1 a0_2 a0_3 a1_0 a1_1 l1_2 l1_3 a2_0 a2_1 a2_2))) else (sandglasslaw10_GcraParts.j0 k true a0_0 a0_1 a0_2 a0_3 a1_0 a1_1 l1_2 l1_3 a2_0 a2_1 a2_2))) else (sandglasslaw10_GcraParts.j0 k true a0_0 a0_1 a0_2 a0_3 a1_0 a1_1 l1_2 l1_3 a2_0 a2_1 a2_2))) = some r := h
  clear h
  have HC4 := Aside0.mk H
  clear H
  go_enter Try.func7, Try.ntmps7
  go_upto_region 1 with (first | ((with_reducible refine gate_dst (N := 3) rfl ?_); refine box_event ?hg (N := 3) ?hd (cs := #[.int .i64 a0_0, .int .i64 a0_1, .int .i64 a0_2, .int .i64 a0_3]) (t := 23) ?hr ?_; (case hd => rfl); (case hg => rfl); (case hr => first | (go_simp; done) | (go_simp; rfl)); intro gb460 hg w5 hbox hb; have BK460 := Aside0.mk (hbox); have GW460 := Aside0.mk ((by rw [hg]; exact (below_size (bl HB)) : w.heap.size ≤ gb460)); have GE460 := Aside0.mk ((by rw [hg]; exact (below_size (bl HB)) : w.heap.size ≤ gb460)); replace HB := Aside0.mk (below_step (bl HB) hb); clear hb hbox hg) | ((with_reducible refine gate_dst (N := 4) rfl ?_); refine box_event ?hg (N := 4) ?hd (cs := #[.int .i64 a1_0, .int .i64 a1_1, .slice A1_2 l1_2.length c1_2, .slice A1_3 l1_3.length c1_3]) (t := 27) ?hr ?_; (case hd => rfl); (case hg => rfl); (case hr => first | (go_simp; done) | (go_simp; rfl)); intro gb461 hg w6 hbox hb; have BK461 := Aside0.mk (hbox); have GW461 := Aside0.mk ((by rw [hg]; exact (below_size (bl HB)) : w.heap.size ≤ gb461)); have GE461 := Aside0.mk ((by rw [hg]; exact (below_size (bl HB)) : w.heap.size ≤ gb461)); have NB460_461 := nb BK460 hg; have NB461_460 := bn BK460 hg; replace BK460 := Aside0.mk (blk_below (bo BK460) hb); replace HB := Aside0.mk (below_step (bl HB) hb); clear hb hbox hg) | ((with_reducible refine gate_dst (N := 5) rfl ?_); refine box_event ?hg (N := 5) ?hd (cs := #[.int .i64 a2_0, .int .i64 a2_1, .int .i64 a2_2]) (t := 47) ?hr ?_; (case hd => rfl); (case hg => rfl); (case hr => first | (go_simp; done) | (go_simp; rfl)); intro gb462 hg w7 hbox hb; have BK462 := Aside0.mk (hbox); have GW462 := Aside0.mk ((by rw [hg]; exact (below_size (bl HB)) : w.heap.size ≤ gb462)); have GE462 := Aside0.mk ((by rw [hg]; exact (below_size (bl HB)) : w.heap.size ≤ gb462)); have NB460_462 := nb BK460 hg; have NB462_460 := bn BK460 hg; have NB461_462 := nb BK461 hg; have NB462_461 := bn BK461 hg; replace BK460 := Aside0.mk (blk_below (bo BK460) hb); replace BK461 := Aside0.mk (blk_below (bo BK461) hb); replace HB := Aside0.mk (below_step (bl HB) hb); clear hb hbox hg))
  (try simp only [Act.put, List.setIfInBounds_toArray, List.set_cons_zero, List.set_cons_succ])
  go_cut [53] (fun v53 wc => ∃ (kq : Nat) (x53_3 : Bool), v53 = .bool x53_3 ∧ Aside0 (sandglasslaw10_GcraParts.j0 kq x53_3 a0_0 a0_1 a0_2 a0_3 a1_0 a1_1 l1_2 l1_3 a2_0 a2_1 a2_2 = some r) ∧ Aside0 (kq ≤ k) ∧ Aside0 (wc.heap[gb460]? = some (.cells #[.int .i64 a0_0, .int .i64 a0_1, .int .i64 a0_2, .int .i64 a0_3] 23 (0, 0))) ∧ Aside0 (wc.heap[gb461]? = some (.cells #[.int .i64 a1_0, .int .i64 a1_1, (.slice A1_2 l1_2.length c1_2), (.slice A1_3 l1_3.length c1_3)] 27 (0, 0))) ∧ Aside0 (wc.heap[gb462]? = some (.cells #[.int .i64 a2_0, .int .i64 a2_1, .int .i64 a2_2] 47 (0, 0))) ∧ Aside0 (Below w.heap.size w wc))
  case first =>
    have H := HC4.out
    clear HC4
    replace H := Option.bind_eq_some_iff.mp H
    obtain ⟨t463, A80, H⟩ := H
    have A8 := Aside0.mk A80
    clear A80
    by_cases c9 : t463 = true
    · subst c9
      rw [if_pos rfl] at H
      replace H := Option.bind_eq_some_iff.mp H
      obtain ⟨t464, A100, H⟩ := H
      have A10 := Aside0.mk A100
      clear A100
      by_cases c11 : t464 = true
      · subst c11
        rw [if_pos rfl] at H
        replace H := Option.bind_eq_some_iff.mp H
        obtain ⟨t465, A120, H⟩ := H
        have A12 := Aside0.mk A120
        clear A120
        by_cases c13 : t465 = true
        · subst c13
          rw [if_pos rfl] at H
          replace H := Option.bind_eq_some_iff.mp H
          obtain ⟨t466, A140, H⟩ := H
          have A14 := Aside0.mk A140
          clear A140
          by_cases c15 : t466 = true
          · subst c15
            rw [if_pos rfl] at H
            replace H := Option.bind_eq_some_iff.mp H
            obtain ⟨t467, A160, H⟩ := H
            have A16 := Aside0.mk A160
            clear A160
            by_cases c17 : t467 = true
            · subst c17
              rw [if_pos rfl] at H
              by_cases c18 : a2_0 < 0
              · rw [if_pos c18] at H
                have c18b0 : decide (a2_0 < 0) = true := decide_eq_true c18
                clear c18
                (first | rw [c18b0] | (simp only [i64_w, i32_w]; rw [c18b0]) | skip)
                have H' := Aside0.mk H
                clear H
                have hnb19 := NB461_460.out
                have hnc19 := NB460_461.out
                have hnb20 := NB461_462.out
                have hnc20 := NB462_461.out
                obtain ⟨hcz21_0, hcz21_1, hcz21_2, hcz21_3⟩ := ce4 BK461
                obtain ⟨hfz21_0, hfz21_1, hfz21_2, hfz21_3⟩ := fr4 BK461
                go_wp2_with (first | ((with_reducible refine gate_callee (f := 8) rfl ?_); refine goesL_ (some 15) rfl rfl Try.func8 (by kernel_rfl) rfl #[.agg #[.int .i64 a1_0, .int .i64 a1_1, .slice A1_2 l1_2.length c1_2, .slice A1_3 l1_3.length c1_3]] rfl (by (try simp only [List.map_toArray, List.map_cons, List.map_nil]); first | done | rfl | (simp only [List.length_drop, List.length_take]; rfl)) ?_; (with_reducible refine (sandglassref10_Few.calls a1_0 a1_1 _ _ l1_2 _ _ l1_3 true _ ?side1 ?side2 ?side3 ?side4 A8.out).mono ?_); (case side1 => repeat (first | exact (Kd.C_below HR1_2.out HB.out) | (with_reducible refine Kd.C_alloc ?_ _) | (with_reducible refine Kd.C_drewN ?_ _) | (with_reducible refine Kd.C_drew ?_))); (case side2 => exact HC1_2.out); (case side3 => repeat (first | exact (Kd.C_below HR1_3.out HB.out) | (with_reducible refine Kd.C_alloc ?_ _) | (with_reducible refine Kd.C_drewN ?_ _) | (with_reducible refine Kd.C_drew ?_))); (case side4 => exact HC1_3.out); rintro e w22 ⟨rfl, hb⟩; refine ⟨_, rfl, ?_⟩; replace BK460 := Aside0.mk (blk_below (bo BK460) hb); replace BK461 := Aside0.mk (blk_below (bo BK461) hb); replace BK462 := Aside0.mk (blk_below (bo BK462) hb); replace HB := Aside0.mk (below_step (bl HB) hb); (try clear hb); (try clear hb2); (try clear hk); (try clear hi); have hnb23 := NB460_462.out; have hnc23 := NB462_460.out; obtain ⟨hcz24_0, hcz24_1, hcz24_2, hcz24_3⟩ := ce4 BK460; obtain ⟨hfz24_0, hfz24_1, hfz24_2, hfz24_3⟩ := fr4 BK460; obtain ⟨hcz25_0, hcz25_1, hcz25_2, hcz25_3⟩ := ce4 BK461; obtain ⟨hfz25_0, hfz25_1, hfz25_2, hfz25_3⟩ := fr4 BK461) | (go_at_call 14; (with_reducible refine (sandglassref10_May.calls k a0_0 a0_1 a0_2 a0_3 a1_0 a1_1 _ _ l1_2 _ _ l1_3 true _ ?side1 ?side2 ?side3 ?side4 A10.out).mono ?_); (case side1 => repeat (first | exact (Kd.C_below HR1_2.out HB.out) | (with_reducible refine Kd.C_alloc ?_ _) | (with_reducible refine Kd.C_drewN ?_ _) | (with_reducible refine Kd.C_drew ?_))); (case side2 => exact HC1_2.out); (case side3 => repeat (first | exact (Kd.C_below HR1_3.out HB.out) | (with_reducible refine Kd.C_alloc ?_ _) | (with_reducible refine Kd.C_drewN ?_ _) | (with_reducible refine Kd.C_drew ?_))); (case side4 => exact HC1_3.out); rintro e w26 ⟨rfl, hb⟩; replace BK460 := Aside0.mk (blk_below (bo BK460) hb); replace BK461 := Aside0.mk (blk_below (bo BK461) hb); replace BK462 := Aside0.mk (blk_below (bo BK462) hb); replace HB := Aside0.mk (below_step (bl HB) hb); (try clear hb); (try clear hb2); (try clear hk); (try clear hi); obtain ⟨hcz27_0, hcz27_1, hcz27_2⟩ := ce3 BK462; obtain ⟨hfz27_0, hfz27_1, hfz27_2⟩ := fr3 BK462) | (go_at_call 19; (with_reducible refine (sandglassref09_Weighs.calls a2_1 true _ A12.out).mono ?_); rintro e w' ⟨rfl, ⟨nd, rfl⟩⟩) | (go_at_call 19; (with_reducible refine (sandglassref09_Weighs.calls a2_2 true _ A14.out).mono ?_); rintro e w' ⟨rfl, ⟨nd, rfl⟩⟩) | (go_at_call 19; (with_reducible refine (sandglassref09_Weighs.calls (wrap64 (a2_1 + a2_2)) true _ A16.out).mono ?_); rintro e w' ⟨rfl, ⟨nd, rfl⟩⟩))
                go_meet
                case rel => exact ⟨_, (true), (by first | (with_reducible rfl) | rfl | (simp; done) | (simp [*]; done)), H', ⟨by first | omega | exact Nat.le_refl _⟩, ⟨bo BK460⟩, ⟨bo BK461⟩, ⟨bo BK462⟩, ⟨bl HB⟩⟩
              · rw [if_neg c18] at H
                have c18b0 : decide (a2_0 < 0) = false := decide_eq_false c18
                clear c18
                (first | rw [c18b0] | (simp only [i64_w, i32_w]; rw [c18b0]) | skip)
                have H' := Aside0.mk H
                clear H
                have hnb28 := NB461_460.out
                have hnc28 := NB460_461.out
                have hnb29 := NB461_462.out
                have hnc29 := NB462_461.out
                obtain ⟨hcz30_0, hcz30_1, hcz30_2, hcz30_3⟩ := ce4 BK461
                obtain ⟨hfz30_0, hfz30_1, hfz30_2, hfz30_3⟩ := fr4 BK461
                go_wp2_with (first | ((with_reducible refine gate_callee (f := 8) rfl ?_); refine goesL_ (some 15) rfl rfl Try.func8 (by kernel_rfl) rfl #[.agg #[.int .i64 a1_0, .int .i64 a1_1, .slice A1_2 l1_2.length c1_2, .slice A1_3 l1_3.length c1_3]] rfl (by (try simp only [List.map_toArray, List.map_cons, List.map_nil]); first | done | rfl | (simp only [List.length_drop, List.length_take]; rfl)) ?_; (with_reducible refine (sandglassref10_Few.calls a1_0 a1_1 _ _ l1_2 _ _ l1_3 true _ ?side1 ?side2 ?side3 ?side4 A8.out).mono ?_); (case side1 => repeat (first | exact (Kd.C_below HR1_2.out HB.out) | (with_reducible refine Kd.C_alloc ?_ _) | (with_reducible refine Kd.C_drewN ?_ _) | (with_reducible refine Kd.C_drew ?_))); (case side2 => exact HC1_2.out); (case side3 => repeat (first | exact (Kd.C_below HR1_3.out HB.out) | (with_reducible refine Kd.C_alloc ?_ _) | (with_reducible refine Kd.C_drewN ?_ _) | (with_reducible refine Kd.C_drew ?_))); (case side4 => exact HC1_3.out); rintro e w31 ⟨rfl, hb⟩; refine ⟨_, rfl, ?_⟩; replace BK460 := Aside0.mk (blk_below (bo BK460) hb); replace BK461 := Aside0.mk (blk_below (bo BK461) hb); replace BK462 := Aside0.mk (blk_below (bo BK462) hb); replace HB := Aside0.mk (below_step (bl HB) hb); (try clear hb); (try clear hb2); (try clear hk); (try clear hi); have hnb32 := NB460_462.out; have hnc32 := NB462_460.out; obtain ⟨hcz33_0, hcz33_1, hcz33_2, hcz33_3⟩ := ce4 BK460; obtain ⟨hfz33_0, hfz33_1, hfz33_2, hfz33_3⟩ := fr4 BK460; obtain ⟨hcz34_0, hcz34_1, hcz34_2, hcz34_3⟩ := ce4 BK461; obtain ⟨hfz34_0, hfz34_1, hfz34_2, hfz34_3⟩ := fr4 BK461) | (go_at_call 14; (with_reducible refine (sandglassref10_May.calls k a0_0 a0_1 a0_2 a0_3 a1_0 a1_1 _ _ l1_2 _ _ l1_3 true _ ?side1 ?side2 ?side3 ?side4 A10.out).mono ?_); (case side1 => repeat (first | exact (Kd.C_below HR1_2.out HB.out) | (with_reducible refine Kd.C_alloc ?_ _) | (with_reducible refine Kd.C_drewN ?_ _) | (with_reducible refine Kd.C_drew ?_))); (case side2 => exact HC1_2.out); (case side3 => repeat (first | exact (Kd.C_below HR1_3.out HB.out) | (with_reducible refine Kd.C_alloc ?_ _) | (with_reducible refine Kd.C_drewN ?_ _) | (with_reducible refine Kd.C_drew ?_))); (case side4 => exact HC1_3.out); rintro e w35 ⟨rfl, hb⟩; replace BK460 := Aside0.mk (blk_below (bo BK460) hb); replace BK461 := Aside0.mk (blk_below (bo BK461) hb); replace BK462 := Aside0.mk (blk_below (bo BK462) hb); replace HB := Aside0.mk (below_step (bl HB) hb); (try clear hb); (try clear hb2); (try clear hk); (try clear hi); obtain ⟨hcz36_0, hcz36_1, hcz36_2⟩ := ce3 BK462; obtain ⟨hfz36_0, hfz36_1, hfz36_2⟩ := fr3 BK462) | (go_at_call 19; (with_reducible refine (sandglassref09_Weighs.calls a2_1 true _ A12.out).mono ?_); rintro e w' ⟨rfl, ⟨nd, rfl⟩⟩) | (go_at_call 19; (with_reducible refine (sandglassref09_Weighs.calls a2_2 true _ A14.out).mono ?_); rintro e w' ⟨rfl, ⟨nd, rfl⟩⟩) | (go_at_call 19; (with_reducible refine (sandglassref09_Weighs.calls (wrap64 (a2_1 + a2_2)) true _ A16.out).mono ?_); rintro e w' ⟨rfl, ⟨nd, rfl⟩⟩))
                go_meet
                case rel => exact ⟨_, (decide (a2_0 > 1099511627776)), (by first | (with_reducible rfl) | rfl | (simp; done) | (simp [*]; done)), H', ⟨by first | omega | exact Nat.le_refl _⟩, ⟨bo BK460⟩, ⟨bo BK461⟩, ⟨bo BK462⟩, ⟨bl HB⟩⟩
            · replace c17 := Bool.eq_false_iff.mpr c17
              subst c17
              rw [if_neg (show ¬ (false = true) by decide)] at H
              have H' := Aside0.mk H
              clear H
              have hnb37 := NB461_460.out
              have hnc37 := NB460_461.out
              have hnb38 := NB461_462.out
              have hnc38 := NB462_461.out
              obtain ⟨hcz39_0, hcz39_1, hcz39_2, hcz39_3⟩ := ce4 BK461
              obtain ⟨hfz39_0, hfz39_1, hfz39_2, hfz39_3⟩ := fr4 BK461
              go_wp2_with (first | ((with_reducible refine gate_callee (f := 8) rfl ?_); refine goesL_ (some 15) rfl rfl Try.func8 (by kernel_rfl) rfl #[.agg #[.int .i64 a1_0, .int .i64 a1_1, .slice A1_2 l1_2.length c1_2, .slice A1_3 l1_3.length c1_3]] rfl (by (try simp only [List.map_toArray, List.map_cons, List.map_nil]); first | done | rfl | (simp only [List.length_drop, List.length_take]; rfl)) ?_; (with_reducible refine (sandglassref10_Few.calls a1_0 a1_1 _ _ l1_2 _ _ l1_3 true _ ?side1 ?side2 ?side3 ?side4 A8.out).mono ?_); (case side1 => repeat (first | exact (Kd.C_below HR1_2.out HB.out) | (with_reducible refine Kd.C_alloc ?_ _) | (with_reducible refine Kd.C_drewN ?_ _) | (with_reducible refine Kd.C_drew ?_))); (case side2 => exact HC1_2.out); (case side3 => repeat (first | exact (Kd.C_below HR1_3.out HB.out) | (with_reducible refine Kd.C_alloc ?_ _) | (with_reducible refine Kd.C_drewN ?_ _) | (with_reducible refine Kd.C_drew ?_))); (case side4 => exact HC1_3.out); rintro e w40 ⟨rfl, hb⟩; refine ⟨_, rfl, ?_⟩; replace BK460 := Aside0.mk (blk_below (bo BK460) hb); replace BK461 := Aside0.mk (blk_below (bo BK461) hb); replace BK462 := Aside0.mk (blk_below (bo BK462) hb); replace HB := Aside0.mk (below_step (bl HB) hb); (try clear hb); (try clear hb2); (try clear hk); (try clear hi); have hnb41 := NB460_462.out; have hnc41 := NB462_460.out; obtain ⟨hcz42_0, hcz42_1, hcz42_2, hcz42_3⟩ := ce4 BK460; obtain ⟨hfz42_0, hfz42_1, hfz42_2, hfz42_3⟩ := fr4 BK460; obtain ⟨hcz43_0, hcz43_1, hcz43_2, hcz43_3⟩ := ce4 BK461; obtain ⟨hfz43_0, hfz43_1, hfz43_2, hfz43_3⟩ := fr4 BK461) | (go_at_call 14; (with_reducible refine (sandglassref10_May.calls k a0_0 a0_1 a0_2 a0_3 a1_0 a1_1 _ _ l1_2 _ _ l1_3 true _ ?side1 ?side2 ?side3 ?side4 A10.out).mono ?_); (case side1 => repeat (first | exact (Kd.C_below HR1_2.out HB.out) | (with_reducible refine Kd.C_alloc ?_ _) | (with_reducible refine Kd.C_drewN ?_ _) | (with_reducible refine Kd.C_drew ?_))); (case side2 => exact HC1_2.out); (case side3 => repeat (first | exact (Kd.C_below HR1_3.out HB.out) | (with_reducible refine Kd.C_alloc ?_ _) | (with_reducible refine Kd.C_drewN ?_ _) | (with_reducible refine Kd.C_drew ?_))); (case side4 => exact HC1_3.out); rintro e w44 ⟨rfl, hb⟩; replace BK460 := Aside0.mk (blk_below (bo BK460) hb); replace BK461 := Aside0.mk (blk_below (bo BK461) hb); replace BK462 := Aside0.mk (blk_below (bo BK462) hb); replace HB := Aside0.mk (below_step (bl HB) hb); (try clear hb); (try clear hb2); (try clear hk); (try clear hi); obtain ⟨hcz45_0, hcz45_1, hcz45_2⟩ := ce3 BK462; obtain ⟨hfz45_0, hfz45_1, hfz45_2⟩ := fr3 BK462) | (go_at_call 19; (with_reducible refine (sandglassref09_Weighs.calls a2_1 true _ A12.out).mono ?_); rintro e w' ⟨rfl, ⟨nd, rfl⟩⟩) | (go_at_call 19; (with_reducible refine (sandglassref09_Weighs.calls a2_2 true _ A14.out).mono ?_); rintro e w' ⟨rfl, ⟨nd, rfl⟩⟩) | (go_at_call 19; (with_reducible refine (sandglassref09_Weighs.calls (wrap64 (a2_1 + a2_2)) false _ A16.out).mono ?_); rintro e w' ⟨rfl, ⟨nd, rfl⟩⟩))
              go_meet
              case rel => exact ⟨_, (true), (by first | (with_reducible rfl) | rfl | (simp; done) | (simp [*]; done)), H', ⟨by first | omega | exact Nat.le_refl _⟩, ⟨bo BK460⟩, ⟨bo BK461⟩, ⟨bo BK462⟩, ⟨bl HB⟩⟩
          · replace c15 := Bool.eq_false_iff.mpr c15
            subst c15
            rw [if_neg (show ¬ (false = true) by decide)] at H
            have H' := Aside0.mk H
            clear H
            have hnb46 := NB461_460.out
            have hnc46 := NB460_461.out
            have hnb47 := NB461_462.out
            have hnc47 := NB462_461.out
            obtain ⟨hcz48_0, hcz48_1, hcz48_2, hcz48_3⟩ := ce4 BK461
            obtain ⟨hfz48_0, hfz48_1, hfz48_2, hfz48_3⟩ := fr4 BK461
            go_wp2_with (first | ((with_reducible refine gate_callee (f := 8) rfl ?_); refine goesL_ (some 15) rfl rfl Try.func8 (by kernel_rfl) rfl #[.agg #[.int .i64 a1_0, .int .i64 a1_1, .slice A1_2 l1_2.length c1_2, .slice A1_3 l1_3.length c1_3]] rfl (by (try simp only [List.map_toArray, List.map_cons, List.map_nil]); first | done | rfl | (simp only [List.length_drop, List.length_take]; rfl)) ?_; (with_reducible refine (sandglassref10_Few.calls a1_0 a1_1 _ _ l1_2 _ _ l1_3 true _ ?side1 ?side2 ?side3 ?side4 A8.out).mono ?_); (case side1 => repeat (first | exact (Kd.C_below HR1_2.out HB.out) | (with_reducible refine Kd.C_alloc ?_ _) | (with_reducible refine Kd.C_drewN ?_ _) | (with_reducible refine Kd.C_drew ?_))); (case side2 => exact HC1_2.out); (case side3 => repeat (first | exact (Kd.C_below HR1_3.out HB.out) | (with_reducible refine Kd.C_alloc ?_ _) | (with_reducible refine Kd.C_drewN ?_ _) | (with_reducible refine Kd.C_drew ?_))); (case side4 => exact HC1_3.out); rintro e w49 ⟨rfl, hb⟩; refine ⟨_, rfl, ?_⟩; replace BK460 := Aside0.mk (blk_below (bo BK460) hb); replace BK461 := Aside0.mk (blk_below (bo BK461) hb); replace BK462 := Aside0.mk (blk_below (bo BK462) hb); replace HB := Aside0.mk (below_step (bl HB) hb); (try clear hb); (try clear hb2); (try clear hk); (try clear hi); have hnb50 := NB460_462.out; have hnc50 := NB462_460.out; obtain ⟨hcz51_0, hcz51_1, hcz51_2, hcz51_3⟩ := ce4 BK460; obtain ⟨hfz51_0, hfz51_1, hfz51_2, hfz51_3⟩ := fr4 BK460; obtain ⟨hcz52_0, hcz52_1, hcz52_2, hcz52_3⟩ := ce4 BK461; obtain ⟨hfz52_0, hfz52_1, hfz52_2, hfz52_3⟩ := fr4 BK461) | (go_at_call 14; (with_reducible refine (sandglassref10_May.calls k a0_0 a0_1 a0_2 a0_3 a1_0 a1_1 _ _ l1_2 _ _ l1_3 true _ ?side1 ?side2 ?side3 ?side4 A10.out).mono ?_); (case side1 => repeat (first | exact (Kd.C_below HR1_2.out HB.out) | (with_reducible refine Kd.C_alloc ?_ _) | (with_reducible refine Kd.C_drewN ?_ _) | (with_reducible refine Kd.C_drew ?_))); (case side2 => exact HC1_2.out); (case side3 => repeat (first | exact (Kd.C_below HR1_3.out HB.out) | (with_reducible refine Kd.C_alloc ?_ _) | (with_reducible refine Kd.C_drewN ?_ _) | (with_reducible refine Kd.C_drew ?_))); (case side4 => exact HC1_3.out); rintro e w53 ⟨rfl, hb⟩; replace BK460 := Aside0.mk (blk_below (bo BK460) hb); replace BK461 := Aside0.mk (blk_below (bo BK461) hb); replace BK462 := Aside0.mk (blk_below (bo BK462) hb); replace HB := Aside0.mk (below_step (bl HB) hb); (try clear hb); (try clear hb2); (try clear hk); (try clear hi); obtain ⟨hcz54_0, hcz54_1, hcz54_2⟩ := ce3 BK462; obtain ⟨hfz54_0, hfz54_1, hfz54_2⟩ := fr3 BK462) | (go_at_call 19; (with_reducible refine (sandglassref09_Weighs.calls a2_1 true _ A12.out).mono ?_); rintro e w' ⟨rfl, ⟨nd, rfl⟩⟩) | (go_at_call 19; (with_reducible refine (sandglassref09_Weighs.calls a2_2 false _ A14.out).mono ?_); rintro e w' ⟨rfl, ⟨nd, rfl⟩⟩))
            go_meet
            case rel => exact ⟨_, (true), (by first | (with_reducible rfl) | rfl | (simp; done) | (simp [*]; done)), H', ⟨by first | omega | exact Nat.le_refl _⟩, ⟨bo BK460⟩, ⟨bo BK461⟩, ⟨bo BK462⟩, ⟨bl HB⟩⟩
        · replace c13 := Bool.eq_false_iff.mpr c13
          subst c13
          rw [if_neg (show ¬ (false = true) by decide)] at H
          have H' := Aside0.mk H
          clear H
          have hnb55 := NB461_460.out
          have hnc55 := NB460_461.out
          have hnb56 := NB461_462.out
          have hnc56 := NB462_461.out
          obtain ⟨hcz57_0, hcz57_1, hcz57_2, hcz57_3⟩ := ce4 BK461
          obtain ⟨hfz57_0, hfz57_1, hfz57_2, hfz57_3⟩ := fr4 BK461
          go_wp2_with (first | ((with_reducible refine gate_callee (f := 8) rfl ?_); refine goesL_ (some 15) rfl rfl Try.func8 (by kernel_rfl) rfl #[.agg #[.int .i64 a1_0, .int .i64 a1_1, .slice A1_2 l1_2.length c1_2, .slice A1_3 l1_3.length c1_3]] rfl (by (try simp only [List.map_toArray, List.map_cons, List.map_nil]); first | done | rfl | (simp only [List.length_drop, List.length_take]; rfl)) ?_; (with_reducible refine (sandglassref10_Few.calls a1_0 a1_1 _ _ l1_2 _ _ l1_3 true _ ?side1 ?side2 ?side3 ?side4 A8.out).mono ?_); (case side1 => repeat (first | exact (Kd.C_below HR1_2.out HB.out) | (with_reducible refine Kd.C_alloc ?_ _) | (with_reducible refine Kd.C_drewN ?_ _) | (with_reducible refine Kd.C_drew ?_))); (case side2 => exact HC1_2.out); (case side3 => repeat (first | exact (Kd.C_below HR1_3.out HB.out) | (with_reducible refine Kd.C_alloc ?_ _) | (with_reducible refine Kd.C_drewN ?_ _) | (with_reducible refine Kd.C_drew ?_))); (case side4 => exact HC1_3.out); rintro e w58 ⟨rfl, hb⟩; refine ⟨_, rfl, ?_⟩; replace BK460 := Aside0.mk (blk_below (bo BK460) hb); replace BK461 := Aside0.mk (blk_below (bo BK461) hb); replace BK462 := Aside0.mk (blk_below (bo BK462) hb); replace HB := Aside0.mk (below_step (bl HB) hb); (try clear hb); (try clear hb2); (try clear hk); (try clear hi); have hnb59 := NB460_462.out; have hnc59 := NB462_460.out; obtain ⟨hcz60_0, hcz60_1, hcz60_2, hcz60_3⟩ := ce4 BK460; obtain ⟨hfz60_0, hfz60_1, hfz60_2, hfz60_3⟩ := fr4 BK460; obtain ⟨hcz61_0, hcz61_1, hcz61_2, hcz61_3⟩ := ce4 BK461; obtain ⟨hfz61_0, hfz61_1, hfz61_2, hfz61_3⟩ := fr4 BK461) | (go_at_call 14; (with_reducible refine (sandglassref10_May.calls k a0_0 a0_1 a0_2 a0_3 a1_0 a1_1 _ _ l1_2 _ _ l1_3 true _ ?side1 ?side2 ?side3 ?side4 A10.out).mono ?_); (case side1 => repeat (first | exact (Kd.C_below HR1_2.out HB.out) | (with_reducible refine Kd.C_alloc ?_ _) | (with_reducible refine Kd.C_drewN ?_ _) | (with_reducible refine Kd.C_drew ?_))); (case side2 => exact HC1_2.out); (case side3 => repeat (first | exact (Kd.C_below HR1_3.out HB.out) | (with_reducible refine Kd.C_alloc ?_ _) | (with_reducible refine Kd.C_drewN ?_ _) | (with_reducible refine Kd.C_drew ?_))); (case side4 => exact HC1_3.out); rintro e w62 ⟨rfl, hb⟩; replace BK460 := Aside0.mk (blk_below (bo BK460) hb); replace BK461 := Aside0.mk (blk_below (bo BK461) hb); replace BK462 := Aside0.mk (blk_below (bo BK462) hb); replace HB := Aside0.mk (below_step (bl HB) hb); (try clear hb); (try clear hb2); (try clear hk); (try clear hi); obtain ⟨hcz63_0, hcz63_1, hcz63_2⟩ := ce3 BK462; obtain ⟨hfz63_0, hfz63_1, hfz63_2⟩ := fr3 BK462) | (go_at_call 19; (with_reducible refine (sandglassref09_Weighs.calls a2_1 false _ A12.out).mono ?_); rintro e w' ⟨rfl, ⟨nd, rfl⟩⟩))
          go_meet
          case rel => exact ⟨_, (true), (by first | (with_reducible rfl) | rfl | (simp; done) | (simp [*]; done)), H', ⟨by first | omega | exact Nat.le_refl _⟩, ⟨bo BK460⟩, ⟨bo BK461⟩, ⟨bo BK462⟩, ⟨bl HB⟩⟩
      · replace c11 := Bool.eq_false_iff.mpr c11
        subst c11
        rw [if_neg (show ¬ (false = true) by decide)] at H
        have H' := Aside0.mk H
        clear H
        have hnb64 := NB461_460.out
        have hnc64 := NB460_461.out
        have hnb65 := NB461_462.out
        have hnc65 := NB462_461.out
        obtain ⟨hcz66_0, hcz66_1, hcz66_2, hcz66_3⟩ := ce4 BK461
        obtain ⟨hfz66_0, hfz66_1, hfz66_2, hfz66_3⟩ := fr4 BK461
        go_wp2_with (first | ((with_reducible refine gate_callee (f := 8) rfl ?_); refine goesL_ (some 15) rfl rfl Try.func8 (by kernel_rfl) rfl #[.agg #[.int .i64 a1_0, .int .i64 a1_1, .slice A1_2 l1_2.length c1_2, .slice A1_3 l1_3.length c1_3]] rfl (by (try simp only [List.map_toArray, List.map_cons, List.map_nil]); first | done | rfl | (simp only [List.length_drop, List.length_take]; rfl)) ?_; (with_reducible refine (sandglassref10_Few.calls a1_0 a1_1 _ _ l1_2 _ _ l1_3 true _ ?side1 ?side2 ?side3 ?side4 A8.out).mono ?_); (case side1 => repeat (first | exact (Kd.C_below HR1_2.out HB.out) | (with_reducible refine Kd.C_alloc ?_ _) | (with_reducible refine Kd.C_drewN ?_ _) | (with_reducible refine Kd.C_drew ?_))); (case side2 => exact HC1_2.out); (case side3 => repeat (first | exact (Kd.C_below HR1_3.out HB.out) | (with_reducible refine Kd.C_alloc ?_ _) | (with_reducible refine Kd.C_drewN ?_ _) | (with_reducible refine Kd.C_drew ?_))); (case side4 => exact HC1_3.out); rintro e w67 ⟨rfl, hb⟩; refine ⟨_, rfl, ?_⟩; replace BK460 := Aside0.mk (blk_below (bo BK460) hb); replace BK461 := Aside0.mk (blk_below (bo BK461) hb); replace BK462 := Aside0.mk (blk_below (bo BK462) hb); replace HB := Aside0.mk (below_step (bl HB) hb); (try clear hb); (try clear hb2); (try clear hk); (try clear hi); have hnb68 := NB460_462.out; have hnc68 := NB462_460.out; obtain ⟨hcz69_0, hcz69_1, hcz69_2, hcz69_3⟩ := ce4 BK460; obtain ⟨hfz69_0, hfz69_1, hfz69_2, hfz69_3⟩ := fr4 BK460; obtain ⟨hcz70_0, hcz70_1, hcz70_2, hcz70_3⟩ := ce4 BK461; obtain ⟨hfz70_0, hfz70_1, hfz70_2, hfz70_3⟩ := fr4 BK461) | (go_at_call 14; (with_reducible refine (sandglassref10_May.calls k a0_0 a0_1 a0_2 a0_3 a1_0 a1_1 _ _ l1_2 _ _ l1_3 false _ ?side1 ?side2 ?side3 ?side4 A10.out).mono ?_); (case side1 => repeat (first | exact (Kd.C_below HR1_2.out HB.out) | (with_reducible refine Kd.C_alloc ?_ _) | (with_reducible refine Kd.C_drewN ?_ _) | (with_reducible refine Kd.C_drew ?_))); (case side2 => exact HC1_2.out); (case side3 => repeat (first | exact (Kd.C_below HR1_3.out HB.out) | (with_reducible refine Kd.C_alloc ?_ _) | (with_reducible refine Kd.C_drewN ?_ _) | (with_reducible refine Kd.C_drew ?_))); (case side4 => exact HC1_3.out); rintro e w71 ⟨rfl, hb⟩; replace BK460 := Aside0.mk (blk_below (bo BK460) hb); replace BK461 := Aside0.mk (blk_below (bo BK461) hb); replace BK462 := Aside0.mk (blk_below (bo BK462) hb); replace HB := Aside0.mk (below_step (bl HB) hb); (try clear hb); (try clear hb2); (try clear hk); (try clear hi)))
        go_meet
        case rel => exact ⟨_, (true), (by first | (with_reducible rfl) | rfl | (simp; done) | (simp [*]; done)), H', ⟨by first | omega | exact Nat.le_refl _⟩, ⟨bo BK460⟩, ⟨bo BK461⟩, ⟨bo BK462⟩, ⟨bl HB⟩⟩
    · replace c9 := Bool.eq_false_iff.mpr c9
      subst c9
      rw [if_neg (show ¬ (false = true) by decide)] at H
      have H' := Aside0.mk H
      clear H
      have hnb72 := NB461_460.out
      have hnc72 := NB460_461.out
      have hnb73 := NB461_462.out
      have hnc73 := NB462_461.out
      obtain ⟨hcz74_0, hcz74_1, hcz74_2, hcz74_3⟩ := ce4 BK461
      obtain ⟨hfz74_0, hfz74_1, hfz74_2, hfz74_3⟩ := fr4 BK461
      go_wp2_with (first | ((with_reducible refine gate_callee (f := 8) rfl ?_); refine goesL_ (some 15) rfl rfl Try.func8 (by kernel_rfl) rfl #[.agg #[.int .i64 a1_0, .int .i64 a1_1, .slice A1_2 l1_2.length c1_2, .slice A1_3 l1_3.length c1_3]] rfl (by (try simp only [List.map_toArray, List.map_cons, List.map_nil]); first | done | rfl | (simp only [List.length_drop, List.length_take]; rfl)) ?_; (with_reducible refine (sandglassref10_Few.calls a1_0 a1_1 _ _ l1_2 _ _ l1_3 false _ ?side1 ?side2 ?side3 ?side4 A8.out).mono ?_); (case side1 => repeat (first | exact (Kd.C_below HR1_2.out HB.out) | (with_reducible refine Kd.C_alloc ?_ _) | (with_reducible refine Kd.C_drewN ?_ _) | (with_reducible refine Kd.C_drew ?_))); (case side2 => exact HC1_2.out); (case side3 => repeat (first | exact (Kd.C_below HR1_3.out HB.out) | (with_reducible refine Kd.C_alloc ?_ _) | (with_reducible refine Kd.C_drewN ?_ _) | (with_reducible refine Kd.C_drew ?_))); (case side4 => exact HC1_3.out); rintro e w75 ⟨rfl, hb⟩; refine ⟨_, rfl, ?_⟩; replace BK460 := Aside0.mk (blk_below (bo BK460) hb); replace BK461 := Aside0.mk (blk_below (bo BK461) hb); replace BK462 := Aside0.mk (blk_below (bo BK462) hb); replace HB := Aside0.mk (below_step (bl HB) hb); (try clear hb); (try clear hb2); (try clear hk); (try clear hi)))
      go_meet
      case rel => exact ⟨_, (true), (by first | (with_reducible rfl) | rfl | (simp; done) | (simp [*]; done)), H', ⟨by first | omega | exact Nat.le_refl _⟩, ⟨bo BK460⟩, ⟨bo BK461⟩, ⟨bo BK462⟩, ⟨bl HB⟩⟩
  case rest =>
    clear HC4
    try clear c1
    try clear c2
    try clear p2
    try clear c3
    try clear c4
    try clear c5
    try clear c6
    try clear p6
    try clear c7
    try clear c8
    try clear c9
    try clear c11
    try clear c13
    try clear c15
    try clear c17
    try clear c18
    try clear c18b0
    try clear c19
    try clear c20
    try clear c23
    try clear c28
    try clear c29
    try clear c32
    try clear c37
    try clear c38
    try clear c41
    try clear c46
    try clear c47
    try clear c50
    try clear c55
    try clear c56
    try clear c59
    try clear c64
    try clear p64
    try clear c65
    try clear c68
    try clear c72
    try clear c73
    try clear hcz21_0
    try clear hcz21_1
    try clear hcz21_2
    try clear hcz21_3
    try clear hcz24_0
    try clear hcz24_1
    try clear hcz24_2
    try clear hcz24_3
    try clear hcz25_0
    try clear hcz25_1
    try clear hcz25_2
    try clear hcz25_3
    try clear hcz27_0
    try clear hcz27_1
    try clear hcz27_2
    try clear hcz30_0
    try clear hcz30_1
    try clear hcz30_2
    try clear hcz30_3
    try clear hcz33_0
    try clear hcz33_1
    try clear hcz33_2
    try clear hcz33_3
    try clear hcz34_0
    try clear hcz34_1
    try clear hcz34_2
    try clear hcz34_3
    try clear hcz36_0
    try clear hcz36_1
    try clear hcz36_2
    try clear hcz39_0
    try clear hcz39_1
    try clear hcz39_2
    try clear hcz39_3
    try clear hcz42_0
    try clear hcz42_1
    try clear hcz42_2
    try clear hcz42_3
    try clear hcz43_0
    try clear hcz43_1
    try clear hcz43_2
    try clear hcz43_3
    try clear hcz45_0
    try clear hcz45_1
    try clear hcz45_2
    try clear hcz48_0
    try clear hcz48_1
    try clear hcz48_2
    try clear hcz48_3
    try clear hcz51_0
    try clear hcz51_1
    try clear hcz51_2
    try clear hcz51_3
    try clear hcz52_0
    try clear hcz52_1
    try clear hcz52_2
    try clear hcz52_3
    try clear hcz54_0
    try clear hcz54_1
    try clear hcz54_2
    try clear hcz57_0
    try clear hcz57_1
    try clear hcz57_2
    try clear hcz57_3
    try clear hcz60_0
    try clear hcz60_1
    try clear hcz60_2
    try clear hcz60_3
    try clear hcz61_0
    try clear hcz61_1
    try clear hcz61_2
    try clear hcz61_3
    try clear hcz63_0
    try clear hcz63_1
    try clear hcz63_2
    try clear hcz66_0
    try clear hcz66_1
    try clear hcz66_2
    try clear hcz66_3
    try clear hcz69_0
    try clear hcz69_1
    try clear hcz69_2
    try clear hcz69_3
    try clear hcz70_0
    try clear hcz70_1
    try clear hcz70_2
    try clear hcz70_3
    try clear hcz74_0
    try clear hcz74_1
    try clear hcz74_2
    try clear hcz74_3
    try clear hfz21_0
    try clear hfz21_1
    try clear hfz21_2
    try clear hfz21_3
    try clear hfz24_0
    try clear hfz24_1
    try clear hfz24_2
    try clear hfz24_3
    try clear hfz25_0
    try clear hfz25_1
    try clear hfz25_2
    try clear hfz25_3
    try clear hfz27_0
    try clear hfz27_1
    try clear hfz27_2
    try clear hfz30_0
    try clear hfz30_1
    try clear hfz30_2
    try clear hfz30_3
    try clear hfz33_0
    try clear hfz33_1
    try clear hfz33_2
    try clear hfz33_3
    try clear hfz34_0
    try clear hfz34_1
    try clear hfz34_2
    try clear hfz34_3
    try clear hfz36_0
    try clear hfz36_1
    try clear hfz36_2
    try clear hfz39_0
    try clear hfz39_1
    try clear hfz39_2
    try clear hfz39_3
    try clear hfz42_0
    try clear hfz42_1
    try clear hfz42_2
    try clear hfz42_3
    try clear hfz43_0
    try clear hfz43_1
    try clear hfz43_2
    try clear hfz43_3
    try clear hfz45_0
    try clear hfz45_1
    try clear hfz45_2
    try clear hfz48_0
    try clear hfz48_1
    try clear hfz48_2
    try clear hfz48_3
    try clear hfz51_0
    try clear hfz51_1
    try clear hfz51_2
    try clear hfz51_3
    try clear hfz52_0
    try clear hfz52_1
    try clear hfz52_2
    try clear hfz52_3
    try clear hfz54_0
    try clear hfz54_1
    try clear hfz54_2
    try clear hfz57_0
    try clear hfz57_1
    try clear hfz57_2
    try clear hfz57_3
    try clear hfz60_0
    try clear hfz60_1
    try clear hfz60_2
    try clear hfz60_3
    try clear hfz61_0
    try clear hfz61_1
    try clear hfz61_2
    try clear hfz61_3
    try clear hfz63_0
    try clear hfz63_1
    try clear hfz63_2
    try clear hfz66_0
    try clear hfz66_1
    try clear hfz66_2
    try clear hfz66_3
    try clear hfz69_0
    try clear hfz69_1
    try clear hfz69_2
    try clear hfz69_3
    try clear hfz70_0
    try clear hfz70_1
    try clear hfz70_2
    try clear hfz70_3
    try clear hfz74_0
    try clear hfz74_1
    try clear hfz74_2
    try clear hfz74_3
    obtain ⟨kq, x53_3, rfl, HA, HJ3, BK460, BK461, BK462, HB⟩ := hcut
    cases kq with
    | zero => exact absurd HA.out (by simp [sandglasslaw10_GcraParts.j0])
    | succ kj3 =>
      have H := HA.out
      clear HA
      simp only [sandglasslaw10_GcraParts.j0] at H
      by_cases c76 : x53_3 = true
      · subst c76
        rw [if_pos rfl] at H
        replace H := Option.bind_eq_some_iff.mp H
        obtain ⟨t468, A770, H⟩ := H
        have A77 := Aside0.mk A770
        clear A770
        obtain rfl := Option.some.inj H
        go_wp2_with (first | ((with_reducible refine gate_callee (f := 9) rfl ?_); refine goesL_ (some 54) rfl rfl Try.func9 (by kernel_rfl) rfl #[] rfl (by (try simp only [List.map_toArray, List.map_cons, List.map_nil]); first | done | rfl | (simp only [List.length_drop, List.length_take]; rfl)) ?_; (with_reducible refine (sandglasslaw10_live.calls kj3  t468 _ A77.out).mono ?_); rintro e w78 ⟨rfl, hb⟩; refine ⟨_, rfl, ?_⟩; replace BK460 := Aside0.mk (blk_below (bo BK460) hb); replace BK461 := Aside0.mk (blk_below (bo BK461) hb); replace BK462 := Aside0.mk (blk_below (bo BK462) hb); replace HB := Aside0.mk (below_step (bl HB) hb); (try clear hb); (try clear hb2); (try clear hk); (try clear hi)))
        go_ret
        exact ⟨by first | (with_reducible rfl) | rfl | (simp [errW_none, errW_some] <;> rfl) | (simp [*, errW_none, errW_some] <;> rfl), bl HB⟩
      · replace c76 := Bool.eq_false_iff.mpr c76
        subst c76
        rw [if_neg (show ¬ (false = true) by decide)] at H
        replace H := Option.bind_eq_some_iff.mp H
        obtain ⟨⟨t469, t470, t471, t474, t477, t478, t479, t480⟩, A790, H⟩ := H
        have A79 := Aside0.mk A790
        clear A790
        replace H := Option.bind_eq_some_iff.mp H
        obtain ⟨⟨t483, t484, t485, t488, t491, t492, t493, t494⟩, A800, H⟩ := H
        have A80 := Aside0.mk A800
        clear A800
        replace H := Option.bind_eq_some_iff.mp H
        obtain ⟨⟨t497, t498, t499, t502, t505, t506, t507, t508⟩, A810, H⟩ := H
        have A81 := Aside0.mk A810
        clear A810
        have HC82 := Aside0.mk H
        clear H
        have hnb83 := NB460_461.out
        have hnc83 := NB461_460.out
        have hnb84 := NB460_462.out
        have hnc84 := NB462_460.out
        obtain ⟨hcz85_0, hcz85_1, hcz85_2, hcz85_3⟩ := ce4 BK460
        obtain ⟨hfz85_0, hfz85_1, hfz85_2, hfz85_3⟩ := fr4 BK460
        have hnb86 := NB461_462.out
        have hnc86 := NB462_461.out
        obtain ⟨hcz87_0, hcz87_1, hcz87_2, hcz87_3⟩ := ce4 BK461
        obtain ⟨hfz87_0, hfz87_1, hfz87_2, hfz87_3⟩ := fr4 BK461
        obtain ⟨hcz88_0, hcz88_1, hcz88_2⟩ := ce3 BK462
        obtain ⟨hfz88_0, hfz88_1, hfz88_2⟩ := fr3 BK462
        go_upto_region 6 with (first | ((with_reducible refine gate_callee (f := 10) rfl ?_); refine goesL_ (some 62) rfl rfl Try.func10 (by kernel_rfl) rfl #[.agg #[.int .i64 a0_0, .int .i64 a0_1, .int .i64 a0_2, .int .i64 a0_3], .agg #[.int .i64 a1_0, .int .i64 a1_1, .slice A1_2 l1_2.length c1_2, .slice A1_3 l1_3.length c1_3], .int .i64 a2_0, .int .i64 a2_1] rfl (by (try simp only [List.map_toArray, List.map_cons, List.map_nil]); first | done | rfl | (simp only [List.length_drop, List.length_take]; rfl)) ?_; (with_reducible refine (gcra_Ask.calls kj3 a0_0 a0_1 a0_2 a0_3 a1_0 a1_1 (fun k_ => k_ < w.heap.size) _ _ l1_2 (fun k_ => k_ < w.heap.size) _ _ l1_3 a2_0 a2_1 t469 t470 t471 t474 t477 t478 t479 t480 _ ?side1 ?side2 A79.out).mono ?_); (case side1 => exact Kd.V_mk HC1_2.out (Kd.F_below (Kd.C_F (Kd.heap_int .i64) HR1_2.out) (bl HB))); (case side2 => exact Kd.V_mk HC1_3.out (Kd.F_below (Kd.C_F k57_heap HR1_3.out) (bl HB))); rintro e w89 ⟨v472, v475, rfl, ho0, ho1, hb⟩; refine ⟨_, rfl, ?_⟩; have HO473 := Aside0.mk (Kd.V_lower (Kd.V_mono (ok' := fun k_ => k_ ≠ gb460 ∧ k_ ≠ gb461 ∧ k_ ≠ gb462) ho0 (fun k_ hk_ => ⟨Or.elim hk_ (fun hs_ => Or.elim hs_ (fun hs_ => fun e_ => Nat.not_le.2 hs_ (by rw [e_]; exact GW460.out)) (fun hs_ => fun e_ => Nat.not_le.2 hs_ (by rw [e_]; exact GW460.out))) (fun hn_ => (Kd.freshB (bo BK460) k_ hn_)), Or.elim hk_ (fun hs_ => Or.elim hs_ (fun hs_ => fun e_ => Nat.not_le.2 hs_ (by rw [e_]; exact GW461.out)) (fun hs_ => fun e_ => Nat.not_le.2 hs_ (by rw [e_]; exact GW461.out))) (fun hn_ => (Kd.freshB (bo BK461) k_ hn_)), Or.elim hk_ (fun hs_ => Or.elim hs_ (fun hs_ => fun e_ => Nat.not_le.2 hs_ (by rw [e_]; exact GW462.out)) (fun hs_ => fun e_ => Nat.not_le.2 hs_ (by rw [e_]; exact GW462.out))) (fun hn_ => (Kd.freshB (bo BK462) k_ hn_))⟩)) (below_size (bl HB))); have HO476 := Aside0.mk (Kd.V_lower (Kd.V_mono (ok' := fun k_ => k_ ≠ gb460 ∧ k_ ≠ gb461 ∧ k_ ≠ gb462) ho1 (fun k_ hk_ => ⟨Or.elim hk_ (fun hs_ => Or.elim hs_ (fun hs_ => fun e_ => Nat.not_le.2 hs_ (by rw [e_]; exact GW460.out)) (fun hs_ => fun e_ => Nat.not_le.2 hs_ (by rw [e_]; exact GW460.out))) (fun hn_ => (Kd.freshB (bo BK460) k_ hn_)), Or.elim hk_ (fun hs_ => Or.elim hs_ (fun hs_ => fun e_ => Nat.not_le.2 hs_ (by rw [e_]; exact GW461.out)) (fun hs_ => fun e_ => Nat.not_le.2 hs_ (by rw [e_]; exact GW461.out))) (fun hn_ => (Kd.freshB (bo BK461) k_ hn_)), Or.elim hk_ (fun hs_ => Or.elim hs_ (fun hs_ => fun e_ => Nat.not_le.2 hs_ (by rw [e_]; exact GW462.out)) (fun hs_ => fun e_ => Nat.not_le.2 hs_ (by rw [e_]; exact GW462.out))) (fun hn_ => (Kd.freshB (bo BK462) k_ hn_))⟩)) (below_size (bl HB))); replace BK460 := Aside0.mk (blk_below (bo BK460) hb); replace BK461 := Aside0.mk (blk_below (bo BK461) hb); replace BK462 := Aside0.mk (blk_below (bo BK462) hb); replace HB := Aside0.mk (below_step (bl HB) hb); (try clear hb); (try clear hb2); (try clear hk); (try clear hi); (try clear ho0); (try clear ho1)) | ((with_reducible refine gate_dst (N := 7) rfl ?_); refine box_event ?hg (N := 7) ?hd (cs := #[.int .i64 0, .int .i64 0, .slice none 0 0, .slice none 0 0]) (t := 27) ?hr ?_; (case hd => rfl); (case hg => rfl); (case hr => first | (go_simp; done) | (go_simp; rfl)); intro gb481 hg w90 hbox hb; have BK481 := Aside0.mk (hbox); have GW481 := Aside0.mk ((by rw [hg]; exact (below_size (bl HB)) : w.heap.size ≤ gb481)); have GE481 := Aside0.mk ((by rw [hg]; exact (below_size (bl HB)) : w.heap.size ≤ gb481)); have NB460_481 := nb BK460 hg; have NB481_460 := bn BK460 hg; have NB461_481 := nb BK461 hg; have NB481_461 := bn BK461 hg; have NB462_481 := nb BK462 hg; have NB481_462 := bn BK462 hg; replace HO473 := ve HO473 hg hb; replace HO476 := ve HO476 hg hb; replace BK460 := Aside0.mk (blk_below (bo BK460) hb); replace BK461 := Aside0.mk (blk_below (bo BK461) hb); replace BK462 := Aside0.mk (blk_below (bo BK462) hb); replace HB := Aside0.mk (below_step (bl HB) hb); clear hb hbox hg) | ((with_reducible refine gate_dst (N := 8) rfl ?_); refine box_event ?hg (N := 8) ?hd (cs := #[.bool false, .int .i64 0, .int .i64 0, .int .i64 0]) (t := 32) ?hr ?_; (case hd => rfl); (case hg => rfl); (case hr => first | (go_simp; done) | (go_simp; rfl)); intro gb482 hg w91 hbox hb; have BK482 := Aside0.mk (hbox); have GW482 := Aside0.mk ((by rw [hg]; exact (below_size (bl HB)) : w.heap.size ≤ gb482)); have GE482 := Aside0.mk ((by rw [hg]; exact (below_size (bl HB)) : w.heap.size ≤ gb482)); have NB460_482 := nb BK460 hg; have NB482_460 := bn BK460 hg; have NB461_482 := nb BK461 hg; have NB482_461 := bn BK461 hg; have NB462_482 := nb BK462 hg; have NB482_462 := bn BK462 hg; have NB481_482 := nb BK481 hg; have NB482_481 := bn BK481 hg; replace HO473 := ve HO473 hg hb; replace HO476 := ve HO476 hg hb; replace BK460 := Aside0.mk (blk_below (bo BK460) hb); replace BK461 := Aside0.mk (blk_below (bo BK461) hb); replace BK462 := Aside0.mk (blk_below (bo BK462) hb); replace BK481 := Aside0.mk (blk_below (bo BK481) hb); replace HB := Aside0.mk (below_step (bl HB) hb); clear hb hbox hg; have hnb92 := NB481_460.out; have hnc92 := NB460_481.out; have hnb93 := NB481_461.out; have hnc93 := NB461_481.out; have hnb94 := NB481_462.out; have hnc94 := NB462_481.out; have hnb95 := NB481_482.out; have hnc95 := NB482_481.out; obtain ⟨hcz96_0, hcz96_1, hcz96_2, hcz96_3⟩ := ce4 BK481; obtain ⟨hfz96_0, hfz96_1, hfz96_2, hfz96_3⟩ := fr4 BK481; obtain ⟨Ao97, co97, eo97⟩ := Kd.V_slice HO473.out; subst eo97; obtain ⟨Ao98, co98, eo98⟩ := Kd.V_slice HO476.out; subst eo98) | ((with_reducible refine gate_store (t := 27) (p := 7) rfl ?_); refine store_event (t := 27) (p := 7) (v := ?vo_w99) (w1 := ((((w91.setCell ⟨gb481, 0, none⟩ (.int .i64 t469)).setCell ⟨gb481, 1, none⟩ (.int .i64 t470)).setCell ⟨gb481, 2, none⟩ (.slice Ao97 t471.length co97)).setCell ⟨gb481, 3, none⟩ (.slice Ao98 t474.length co98))) ?hg ?ho ?hn ?hr ?_; (case ho => rfl); (case hg => rfl); (case hn => rfl); (case hr => first | (go_simp; done) | (go_simp; rfl)); intro w99 hw; replace HO473 : Aside0 (Kd.V (Kd.int .i64) 3 w99 w.heap.size (fun k_ => k_ ≠ gb460 ∧ k_ ≠ gb461 ∧ k_ ≠ gb462 ∧ k_ ≠ gb481 ∧ k_ ≠ gb482) (.slice Ao97 t471.length co97) t471) := ⟨(by rw [hw]; exact (by (with_reducible repeat (first | apply Kd.V_alloc | apply Kd.V_drewN | apply Kd.V_drew)); exact Kd.V_mono (Kd.V_far (p := ⟨gb481, 3, none⟩) (Kd.V_far (p := ⟨gb481, 2, none⟩) (Kd.V_far (p := ⟨gb481, 1, none⟩) (Kd.V_far (p := ⟨gb481, 0, none⟩) (Kd.V_mono HO473.out (fun k_ hk => (⟨hk, hk.1.2⟩ : _ ∧ k_ ≠ gb481))) (fun _ hk => hk.2) (.int .i64 t469)) (fun _ hk => hk.2) (.int .i64 t470)) (fun _ hk => hk.2) (.slice Ao97 t471.length co97)) (fun _ hk => hk.2) (.slice Ao98 t474.length co98)) (fun _ hk => ⟨hk.1.1.1.1, ⟨hk.1.1.1.2.1, ⟨hk.1.1.1.2.2, ⟨hk.1.1.2, hk.1.2⟩⟩⟩⟩)))⟩; replace HO476 : Aside0 (Kd.V k57 57 w99 w.heap.size (fun k_ => k_ ≠ gb460 ∧ k_ ≠ gb461 ∧ k_ ≠ gb462 ∧ k_ ≠ gb481 ∧ k_ ≠ gb482) (.slice Ao98 t474.length co98) t474) := ⟨(by rw [hw]; exact (by (with_reducible repeat (first | apply Kd.V_alloc | apply Kd.V_drewN | apply Kd.V_drew)); exact Kd.V_mono (Kd.V_far (p := ⟨gb481, 3, none⟩) (Kd.V_far (p := ⟨gb481, 2, none⟩) (Kd.V_far (p := ⟨gb481, 1, none⟩) (Kd.V_far (p := ⟨gb481, 0, none⟩) (Kd.V_mono HO476.out (fun k_ hk => (⟨hk, hk.1.2⟩ : _ ∧ k_ ≠ gb481))) (fun _ hk => hk.2) (.int .i64 t469)) (fun _ hk => hk.2) (.int .i64 t470)) (fun _ hk => hk.2) (.slice Ao97 t471.length co97)) (fun _ hk => hk.2) (.slice Ao98 t474.length co98)) (fun _ hk => ⟨hk.1.1.1.1, ⟨hk.1.1.1.2.1, ⟨hk.1.1.1.2.2, ⟨hk.1.1.2, hk.1.2⟩⟩⟩⟩)))⟩; replace BK460 : Aside0 (w99.heap[gb460]? = some (.cells #[.int .i64 a0_0, .int .i64 a0_1, .int .i64 a0_2, .int .i64 a0_3] 23 (0, 0))) := ⟨(by rw [hw]; exact (by (with_reducible repeat (first | refine blk_drewN ?_ _ | refine blk_drew ?_ | refine blk_alloc ?_ _)); refine blk_far ?_ NB460_481.out _; (with_reducible repeat (first | refine blk_drewN ?_ _ | refine blk_drew ?_ | refine blk_alloc ?_ _)); refine blk_far ?_ NB460_481.out _; (with_reducible repeat (first | refine blk_drewN ?_ _ | refine blk_drew ?_ | refine blk_alloc ?_ _)); refine blk_far ?_ NB460_481.out _; (with_reducible repeat (first | refine blk_drewN ?_ _ | refine blk_drew ?_ | refine blk_alloc ?_ _)); refine blk_far ?_ NB460_481.out _; (with_reducible repeat (first | refine blk_drewN ?_ _ | refine blk_drew ?_ | refine blk_alloc ?_ _)); exact BK460.out))⟩; replace BK461 : Aside0 (w99.heap[gb461]? = some (.cells #[.int .i64 a1_0, .int .i64 a1_1, .slice A1_2 l1_2.length c1_2, .slice A1_3 l1_3.length c1_3] 27 (0, 0))) := ⟨(by rw [hw]; exact (by (with_reducible repeat (first | refine blk_drewN ?_ _ | refine blk_drew ?_ | refine blk_alloc ?_ _)); refine blk_far ?_ NB461_481.out _; (with_reducible repeat (first | refine blk_drewN ?_ _ | refine blk_drew ?_ | refine blk_alloc ?_ _)); refine blk_far ?_ NB461_481.out _; (with_reducible repeat (first | refine blk_drewN ?_ _ | refine blk_drew ?_ | refine blk_alloc ?_ _)); refine blk_far ?_ NB461_481.out _; (with_reducible repeat (first | refine blk_drewN ?_ _ | refine blk_drew ?_ | refine blk_alloc ?_ _)); refine blk_far ?_ NB461_481.out _; (with_reducible repeat (first | refine blk_drewN ?_ _ | refine blk_drew ?_ | refine blk_alloc ?_ _)); exact BK461.out))⟩; replace BK462 : Aside0 (w99.heap[gb462]? = some (.cells #[.int .i64 a2_0, .int .i64 a2_1, .int .i64 a2_2] 47 (0, 0))) := ⟨(by rw [hw]; exact (by (with_reducible repeat (first | refine blk_drewN ?_ _ | refine blk_drew ?_ | refine blk_alloc ?_ _)); refine blk_far ?_ NB462_481.out _; (with_reducible repeat (first | refine blk_drewN ?_ _ | refine blk_drew ?_ | refine blk_alloc ?_ _)); refine blk_far ?_ NB462_481.out _; (with_reducible repeat (first | refine blk_drewN ?_ _ | refine blk_drew ?_ | refine blk_alloc ?_ _)); refine blk_far ?_ NB462_481.out _; (with_reducible repeat (first | refine blk_drewN ?_ _ | refine blk_drew ?_ | refine blk_alloc ?_ _)); refine blk_far ?_ NB462_481.out _; (with_reducible repeat (first | refine blk_drewN ?_ _ | refine blk_drew ?_ | refine blk_alloc ?_ _)); exact BK462.out))⟩; replace BK481 : Aside0 (w99.heap[gb481]? = some (.cells #[.int .i64 t469, .int .i64 t470, .slice Ao97 t471.length co97, .slice Ao98 t474.length co98] 27 (0, 0))) := ⟨(by rw [hw]; exact (by (with_reducible repeat (first | refine blk_drewN ?_ _ | refine blk_drew ?_ | refine blk_alloc ?_ _)); refine blk_put (cs := #[.int .i64 t469, .int .i64 t470, .slice Ao97 t471.length co97, .slice none 0 0]) ?_ 3 _ rfl; (with_reducible repeat (first | refine blk_drewN ?_ _ | refine blk_drew ?_ | refine blk_alloc ?_ _)); refine blk_put (cs := #[.int .i64 t469, .int .i64 t470, .slice none 0 0, .slice none 0 0]) ?_ 2 _ rfl; (with_reducible repeat (first | refine blk_drewN ?_ _ | refine blk_drew ?_ | refine blk_alloc ?_ _)); refine blk_put (cs := #[.int .i64 t469, .int .i64 0, .slice none 0 0, .slice none 0 0]) ?_ 1 _ rfl; (with_reducible repeat (first | refine blk_drewN ?_ _ | refine blk_drew ?_ | refine blk_alloc ?_ _)); refine blk_put (cs := #[.int .i64 0, .int .i64 0, .slice none 0 0, .slice none 0 0]) ?_ 0 _ rfl; (with_reducible repeat (first | refine blk_drewN ?_ _ | refine blk_drew ?_ | refine blk_alloc ?_ _)); exact BK481.out))⟩; replace BK482 : Aside0 (w99.heap[gb482]? = some (.cells #[.bool false, .int .i64 0, .int .i64 0, .int .i64 0] 32 (0, 0))) := ⟨(by rw [hw]; exact (by (with_reducible repeat (first | refine blk_drewN ?_ _ | refine blk_drew ?_ | refine blk_alloc ?_ _)); refine blk_far ?_ NB482_481.out _; (with_reducible repeat (first | refine blk_drewN ?_ _ | refine blk_drew ?_ | refine blk_alloc ?_ _)); refine blk_far ?_ NB482_481.out _; (with_reducible repeat (first | refine blk_drewN ?_ _ | refine blk_drew ?_ | refine blk_alloc ?_ _)); refine blk_far ?_ NB482_481.out _; (with_reducible repeat (first | refine blk_drewN ?_ _ | refine blk_drew ?_ | refine blk_alloc ?_ _)); refine blk_far ?_ NB482_481.out _; (with_reducible repeat (first | refine blk_drewN ?_ _ | refine blk_drew ?_ | refine blk_alloc ?_ _)); exact BK482.out))⟩; replace HB : Aside0 (Below w.heap.size w w99) := ⟨(by rw [hw]; exact (bl HB))⟩; clear hw; have hnb100 := NB482_460.out; have hnc100 := NB460_482.out; have hnb101 := NB482_461.out; have hnc101 := NB461_482.out; have hnb102 := NB482_462.out; have hnc102 := NB462_482.out; obtain ⟨hcz103_0, hcz103_1, hcz103_2, hcz103_3⟩ := ce4 BK482; obtain ⟨hfz103_0, hfz103_1, hfz103_2, hfz103_3⟩ := fr4 BK482) | ((with_reducible refine gate_store (t := 32) (p := 8) rfl ?_); refine store_event (t := 32) (p := 8) (v := ?vo_w104) (w1 := ((((w99.setCell ⟨gb482, 0, none⟩ (.bool t477)).setCell ⟨gb482, 1, none⟩ (.int .i64 t478)).setCell ⟨gb482, 2, none⟩ (.int .i64 t479)).setCell ⟨gb482, 3, none⟩ (.int .i64 t480))) ?hg ?ho ?hn ?hr ?_; (case ho => rfl); (case hg => rfl); (case hn => rfl); (case hr => first | (go_simp; done) | (go_simp; rfl)); intro w104 hw; replace HO473 : Aside0 (Kd.V (Kd.int .i64) 3 w104 w.heap.size (fun k_ => k_ ≠ gb460 ∧ k_ ≠ gb461 ∧ k_ ≠ gb462 ∧ k_ ≠ gb481 ∧ k_ ≠ gb482) (.slice Ao97 t471.length co97) t471) := ⟨(by rw [hw]; exact (by (with_reducible repeat (first | apply Kd.V_alloc | apply Kd.V_drewN | apply Kd.V_drew)); exact Kd.V_mono (Kd.V_far (p := ⟨gb482, 3, none⟩) (Kd.V_far (p := ⟨gb482, 2, none⟩) (Kd.V_far (p := ⟨gb482, 1, none⟩) (Kd.V_far (p := ⟨gb482, 0, none⟩) (Kd.V_mono HO473.out (fun k_ hk => (⟨hk, hk.2.2.2.2⟩ : _ ∧ k_ ≠ gb482))) (fun _ hk => hk.2) (.bool t477)) (fun _ hk => hk.2) (.int .i64 t478)) (fun _ hk => hk.2) (.int .i64 t479)) (fun _ hk => hk.2) (.int .i64 t480)) (fun _ hk => ⟨hk.1.1, ⟨hk.1.2.1, ⟨hk.1.2.2.1, ⟨hk.1.2.2.2.1, hk.1.2.2.2.2⟩⟩⟩⟩)))⟩; replace HO476 : Aside0 (Kd.V k57 57 w104 w.heap.size (fun k_ => k_ ≠ gb460 ∧ k_ ≠ gb461 ∧ k_ ≠ gb462 ∧ k_ ≠ gb481 ∧ k_ ≠ gb482) (.slice Ao98 t474.length co98) t474) := ⟨(by rw [hw]; exact (by (with_reducible repeat (first | apply Kd.V_alloc | apply Kd.V_drewN | apply Kd.V_drew)); exact Kd.V_mono (Kd.V_far (p := ⟨gb482, 3, none⟩) (Kd.V_far (p := ⟨gb482, 2, none⟩) (Kd.V_far (p := ⟨gb482, 1, none⟩) (Kd.V_far (p := ⟨gb482, 0, none⟩) (Kd.V_mono HO476.out (fun k_ hk => (⟨hk, hk.2.2.2.2⟩ : _ ∧ k_ ≠ gb482))) (fun _ hk => hk.2) (.bool t477)) (fun _ hk => hk.2) (.int .i64 t478)) (fun _ hk => hk.2) (.int .i64 t479)) (fun _ hk => hk.2) (.int .i64 t480)) (fun _ hk => ⟨hk.1.1, ⟨hk.1.2.1, ⟨hk.1.2.2.1, ⟨hk.1.2.2.2.1, hk.1.2.2.2.2⟩⟩⟩⟩)))⟩; replace BK460 : Aside0 (w104.heap[gb460]? = some (.cells #[.int .i64 a0_0, .int .i64 a0_1, .int .i64 a0_2, .int .i64 a0_3] 23 (0, 0))) := ⟨(by rw [hw]; exact (by (with_reducible repeat (first | refine blk_drewN ?_ _ | refine blk_drew ?_ | refine blk_alloc ?_ _)); refine blk_far ?_ NB460_482.out _; (with_reducible repeat (first | refine blk_drewN ?_ _ | refine blk_drew ?_ | refine blk_alloc ?_ _)); refine blk_far ?_ NB460_482.out _; (with_reducible repeat (first | refine blk_drewN ?_ _ | refine blk_drew ?_ | refine blk_alloc ?_ _)); refine blk_far ?_ NB460_482.out _; (with_reducible repeat (first | refine blk_drewN ?_ _ | refine blk_drew ?_ | refine blk_alloc ?_ _)); refine blk_far ?_ NB460_482.out _; (with_reducible repeat (first | refine blk_drewN ?_ _ | refine blk_drew ?_ | refine blk_alloc ?_ _)); exact BK460.out))⟩; replace BK461 : Aside0 (w104.heap[gb461]? = some (.cells #[.int .i64 a1_0, .int .i64 a1_1, .slice A1_2 l1_2.length c1_2, .slice A1_3 l1_3.length c1_3] 27 (0, 0))) := ⟨(by rw [hw]; exact (by (with_reducible repeat (first | refine blk_drewN ?_ _ | refine blk_drew ?_ | refine blk_alloc ?_ _)); refine blk_far ?_ NB461_482.out _; (with_reducible repeat (first | refine blk_drewN ?_ _ | refine blk_drew ?_ | refine blk_alloc ?_ _)); refine blk_far ?_ NB461_482.out _; (with_reducible repeat (first | refine blk_drewN ?_ _ | refine blk_drew ?_ | refine blk_alloc ?_ _)); refine blk_far ?_ NB461_482.out _; (with_reducible repeat (first | refine blk_drewN ?_ _ | refine blk_drew ?_ | refine blk_alloc ?_ _)); refine blk_far ?_ NB461_482.out _; (with_reducible repeat (first | refine blk_drewN ?_ _ | refine blk_drew ?_ | refine blk_alloc ?_ _)); exact BK461.out))⟩; replace BK462 : Aside0 (w104.heap[gb462]? = some (.cells #[.int .i64 a2_0, .int .i64 a2_1, .int .i64 a2_2] 47 (0, 0))) := ⟨(by rw [hw]; exact (by (with_reducible repeat (first | refine blk_drewN ?_ _ | refine blk_drew ?_ | refine blk_alloc ?_ _)); refine blk_far ?_ NB462_482.out _; (with_reducible repeat (first | refine blk_drewN ?_ _ | refine blk_drew ?_ | refine blk_alloc ?_ _)); refine blk_far ?_ NB462_482.out _; (with_reducible repeat (first | refine blk_drewN ?_ _ | refine blk_drew ?_ | refine blk_alloc ?_ _)); refine blk_far ?_ NB462_482.out _; (with_reducible repeat (first | refine blk_drewN ?_ _ | refine blk_drew ?_ | refine blk_alloc ?_ _)); refine blk_far ?_ NB462_482.out _; (with_reducible repeat (first | refine blk_drewN ?_ _ | refine blk_drew ?_ | refine blk_alloc ?_ _)); exact BK462.out))⟩; replace BK481 : Aside0 (w104.heap[gb481]? = some (.cells #[.int .i64 t469, .int .i64 t470, .slice Ao97 t471.length co97, .slice Ao98 t474.length co98] 27 (0, 0))) := ⟨(by rw [hw]; exact (by (with_reducible repeat (first | refine blk_drewN ?_ _ | refine blk_drew ?_ | refine blk_alloc ?_ _)); refine blk_far ?_ NB481_482.out _; (with_reducible repeat (first | refine blk_drewN ?_ _ | refine blk_drew ?_ | refine blk_alloc ?_ _)); refine blk_far ?_ NB481_482.out _; (with_reducible repeat (first | refine blk_drewN ?_ _ | refine blk_drew ?_ | refine blk_alloc ?_ _)); refine blk_far ?_ NB481_482.out _; (with_reducible repeat (first | refine blk_drewN ?_ _ | refine blk_drew ?_ | refine blk_alloc ?_ _)); refine blk_far ?_ NB481_482.out _; (with_reducible repeat (first | refine blk_drewN ?_ _ | refine blk_drew ?_ | refine blk_alloc ?_ _)); exact BK481.out))⟩; replace BK482 : Aside0 (w104.heap[gb482]? = some (.cells #[.bool t477, .int .i64 t478, .int .i64 t479, .int .i64 t480] 32 (0, 0))) := ⟨(by rw [hw]; exact (by (with_reducible repeat (first | refine blk_drewN ?_ _ | refine blk_drew ?_ | refine blk_alloc ?_ _)); refine blk_put (cs := #[.bool t477, .int .i64 t478, .int .i64 t479, .int .i64 0]) ?_ 3 _ rfl; (with_reducible repeat (first | refine blk_drewN ?_ _ | refine blk_drew ?_ | refine blk_alloc ?_ _)); refine blk_put (cs := #[.bool t477, .int .i64 t478, .int .i64 0, .int .i64 0]) ?_ 2 _ rfl; (with_reducible repeat (first | refine blk_drewN ?_ _ | refine blk_drew ?_ | refine blk_alloc ?_ _)); refine blk_put (cs := #[.bool t477, .int .i64 0, .int .i64 0, .int .i64 0]) ?_ 1 _ rfl; (with_reducible repeat (first | refine blk_drewN ?_ _ | refine blk_drew ?_ | refine blk_alloc ?_ _)); refine blk_put (cs := #[.bool false, .int .i64 0, .int .i64 0, .int .i64 0]) ?_ 0 _ rfl; (with_reducible repeat (first | refine blk_drewN ?_ _ | refine blk_drew ?_ | refine blk_alloc ?_ _)); exact BK482.out))⟩; replace HB : Aside0 (Below w.heap.size w w104) := ⟨(by rw [hw]; exact (bl HB))⟩; clear hw; obtain ⟨hcz105_0, hcz105_1, hcz105_2, hcz105_3⟩ := ce4 BK460; obtain ⟨hfz105_0, hfz105_1, hfz105_2, hfz105_3⟩ := fr4 BK460; obtain ⟨hcz106_0, hcz106_1, hcz106_2, hcz106_3⟩ := ce4 BK481; obtain ⟨hfz106_0, hfz106_1, hfz106_2, hfz106_3⟩ := fr4 BK481; obtain ⟨hcz107_0, hcz107_1, hcz107_2⟩ := ce3 BK462; obtain ⟨hfz107_0, hfz107_1, hfz107_2⟩ := fr3 BK462) | ((with_reducible refine gate_callee (f := 10) rfl ?_); refine goesL_ (some 72) rfl rfl Try.func10 (by kernel_rfl) rfl #[.agg #[.int .i64 a0_0, .int .i64 a0_1, .int .i64 a0_2, .int .i64 a0_3], .agg #[.int .i64 t469, .int .i64 t470, .slice Ao97 t471.length co97, .slice Ao98 t474.length co98], .int .i64 a2_0, .int .i64 a2_2] rfl (by (try simp only [List.map_toArray, List.map_cons, List.map_nil]); first | done | rfl | (simp only [List.length_drop, List.length_take]; rfl)) ?_; (with_reducible refine (gcra_Ask.calls kj3 a0_0 a0_1 a0_2 a0_3 t469 t470 (fun k_ => (k_ ≠ gb460 ∧ (k_ ≠ gb461 ∧ (k_ ≠ gb462 ∧ (k_ ≠ gb481 ∧ k_ ≠ gb482))))) _ _ t471 (fun k_ => (k_ ≠ gb460 ∧ (k_ ≠ gb461 ∧ (k_ ≠ gb462 ∧ (k_ ≠ gb481 ∧ k_ ≠ gb482))))) _ _ t474 a2_0 a2_2 t483 t484 t485 t488 t491 t492 t493 t494 _ ?side1 ?side2 A80.out).mono ?_); (case side1 => exact HO473.out); (case side2 => exact HO476.out); rintro e w108 ⟨v486, v489, rfl, ho0, ho1, hb⟩; refine ⟨_, rfl, ?_⟩; have HO487 := Aside0.mk (Kd.V_lower (Kd.V_mono (ok' := fun k_ => k_ ≠ gb460 ∧ k_ ≠ gb461 ∧ k_ ≠ gb462 ∧ k_ ≠ gb481 ∧ k_ ≠ gb482) ho0 (fun k_ hk_ => ⟨Or.elim hk_ (fun hs_ => Or.elim hs_ (fun hs_ => hs_.1) (fun hs_ => hs_.1)) (fun hn_ => (Kd.freshB (bo BK460) k_ hn_)), Or.elim hk_ (fun hs_ => Or.elim hs_ (fun hs_ => hs_.2.1) (fun hs_ => hs_.2.1)) (fun hn_ => (Kd.freshB (bo BK461) k_ hn_)), Or.elim hk_ (fun hs_ => Or.elim hs_ (fun hs_ => hs_.2.2.1) (fun hs_ => hs_.2.2.1)) (fun hn_ => (Kd.freshB (bo BK462) k_ hn_)), Or.elim hk_ (fun hs_ => Or.elim hs_ (fun hs_ => hs_.2.2.2.1) (fun hs_ => hs_.2.2.2.1)) (fun hn_ => (Kd.freshB (bo BK481) k_ hn_)), Or.elim hk_ (fun hs_ => Or.elim hs_ (fun hs_ => hs_.2.2.2.2) (fun hs_ => hs_.2.2.2.2)) (fun hn_ => (Kd.freshB (bo BK482) k_ hn_))⟩)) (below_size (bl HB))); have HO490 := Aside0.mk (Kd.V_lower (Kd.V_mono (ok' := fun k_ => k_ ≠ gb460 ∧ k_ ≠ gb461 ∧ k_ ≠ gb462 ∧ k_ ≠ gb481 ∧ k_ ≠ gb482) ho1 (fun k_ hk_ => ⟨Or.elim hk_ (fun hs_ => Or.elim hs_ (fun hs_ => hs_.1) (fun hs_ => hs_.1)) (fun hn_ => (Kd.freshB (bo BK460) k_ hn_)), Or.elim hk_ (fun hs_ => Or.elim hs_ (fun hs_ => hs_.2.1) (fun hs_ => hs_.2.1)) (fun hn_ => (Kd.freshB (bo BK461) k_ hn_)), Or.elim hk_ (fun hs_ => Or.elim hs_ (fun hs_ => hs_.2.2.1) (fun hs_ => hs_.2.2.1)) (fun hn_ => (Kd.freshB (bo BK462) k_ hn_)), Or.elim hk_ (fun hs_ => Or.elim hs_ (fun hs_ => hs_.2.2.2.1) (fun hs_ => hs_.2.2.2.1)) (fun hn_ => (Kd.freshB (bo BK481) k_ hn_)), Or.elim hk_ (fun hs_ => Or.elim hs_ (fun hs_ => hs_.2.2.2.2) (fun hs_ => hs_.2.2.2.2)) (fun hn_ => (Kd.freshB (bo BK482) k_ hn_))⟩)) (below_size (bl HB))); replace HO473 := vb HO473 hb; replace HO476 := vb HO476 hb; replace BK460 := Aside0.mk (blk_below (bo BK460) hb); replace BK461 := Aside0.mk (blk_below (bo BK461) hb); replace BK462 := Aside0.mk (blk_below (bo BK462) hb); replace BK481 := Aside0.mk (blk_below (bo BK481) hb); replace BK482 := Aside0.mk (blk_below (bo BK482) hb); replace HB := Aside0.mk (below_step (bl HB) hb); (try clear hb); (try clear hb2); (try clear hk); (try clear hi); (try clear ho0); (try clear ho1)) | ((with_reducible refine gate_dst (N := 9) rfl ?_); refine box_event ?hg (N := 9) ?hd (cs := #[.int .i64 0, .int .i64 0, .slice none 0 0, .slice none 0 0]) (t := 27) ?hr ?_; (case hd => rfl); (case hg => rfl); (case hr => first | (go_simp; done) | (go_simp; rfl)); intro gb495 hg w109 hbox hb; have BK495 := Aside0.mk (hbox); have GW495 := Aside0.mk ((by rw [hg]; exact (below_size (bl HB)) : w.heap.size ≤ gb495)); have GE495 := Aside0.mk ((by rw [hg]; exact (below_size (bl HB)) : w.heap.size ≤ gb495)); have NB460_495 := nb BK460 hg; have NB495_460 := bn BK460 hg; have NB461_495 := nb BK461 hg; have NB495_461 := bn BK461 hg; have NB462_495 := nb BK462 hg; have NB495_462 := bn BK462 hg; have NB481_495 := nb BK481 hg; have NB495_481 := bn BK481 hg; have NB482_495 := nb BK482 hg; have NB495_482 := bn BK482 hg; replace HO473 := ve HO473 hg hb; replace HO476 := ve HO476 hg hb; replace HO487 := ve HO487 hg hb; replace HO490 := ve HO490 hg hb; replace BK460 := Aside0.mk (blk_below (bo BK460) hb); replace BK461 := Aside0.mk (blk_below (bo BK461) hb); replace BK462 := Aside0.mk (blk_below (bo BK462) hb); replace BK481 := Aside0.mk (blk_below (bo BK481) hb); replace BK482 := Aside0.mk (blk_below (bo BK482) hb); replace HB := Aside0.mk (below_step (bl HB) hb); clear hb hbox hg) | ((with_reducible refine gate_dst (N := 10) rfl ?_); refine box_event ?hg (N := 10) ?hd (cs := #[.bool false, .int .i64 0, .int .i64 0, .int .i64 0]) (t := 32) ?hr ?_; (case hd => rfl); (case hg => rfl); (case hr => first | (go_simp; done) | (go_simp; rfl)); intro gb496 hg w110 hbox hb; have BK496 := Aside0.mk (hbox); have GW496 := Aside0.mk ((by rw [hg]; exact (below_size (bl HB)) : w.heap.size ≤ gb496)); have GE496 := Aside0.mk ((by rw [hg]; exact (below_size (bl HB)) : w.heap.size ≤ gb496)); have NB460_496 := nb BK460 hg; have NB496_460 := bn BK460 hg; have NB461_496 := nb BK461 hg; have NB496_461 := bn BK461 hg; have NB462_496 := nb BK462 hg; have NB496_462 := bn BK462 hg; have NB481_496 := nb BK481 hg; have NB496_481 := bn BK481 hg; have NB482_496 := nb BK482 hg; have NB496_482 := bn BK482 hg; have NB495_496 := nb BK495 hg; have NB496_495 := bn BK495 hg; replace HO473 := ve HO473 hg hb; replace HO476 := ve HO476 hg hb; replace HO487 := ve HO487 hg hb; replace HO490 := ve HO490 hg hb; replace BK460 := Aside0.mk (blk_below (bo BK460) hb); replace BK461 := Aside0.mk (blk_below (bo BK461) hb); replace BK462 := Aside0.mk (blk_below (bo BK462) hb); replace BK481 := Aside0.mk (blk_below (bo BK481) hb); replace BK482 := Aside0.mk (blk_below (bo BK482) hb); replace BK495 := Aside0.mk (blk_below (bo BK495) hb); replace HB := Aside0.mk (below_step (bl HB) hb); clear hb hbox hg; have hnb111 := NB495_460.out; have hnc111 := NB460_495.out; have hnb112 := NB495_461.out; have hnc112 := NB461_495.out; have hnb113 := NB495_462.out; have hnc113 := NB462_495.out; have hnb114 := NB495_481.out; have hnc114 := NB481_495.out; have hnb115 := NB495_482.out; have hnc115 := NB482_495.out; have hnb116 := NB495_496.out; have hnc116 := NB496_495.out; obtain ⟨hcz117_0, hcz117_1, hcz117_2, hcz117_3⟩ := ce4 BK495; obtain ⟨hfz117_0, hfz117_1, hfz117_2, hfz117_3⟩ := fr4 BK495; obtain ⟨Ao118, co118, eo118⟩ := Kd.V_slice HO487.out; subst eo118; obtain ⟨Ao119, co119, eo119⟩ := Kd.V_slice HO490.out; subst eo119) | ((with_reducible refine gate_store (t := 27) (p := 9) rfl ?_); refine store_event (t := 27) (p := 9) (v := ?vo_w120) (w1 := ((((w110.setCell ⟨gb495, 0, none⟩ (.int .i64 t483)).setCell ⟨gb495, 1, none⟩ (.int .i64 t484)).setCell ⟨gb495, 2, none⟩ (.slice Ao118 t485.length co118)).setCell ⟨gb495, 3, none⟩ (.slice Ao119 t488.length co119))) ?hg ?ho ?hn ?hr ?_; (case ho => rfl); (case hg => rfl); (case hn => rfl); (case hr => first | (go_simp; done) | (go_simp; rfl)); intro w120 hw; replace HO473 : Aside0 (Kd.V (Kd.int .i64) 3 w120 w.heap.size (fun k_ => k_ ≠ gb460 ∧ k_ ≠ gb461 ∧ k_ ≠ gb462 ∧ k_ ≠ gb481 ∧ k_ ≠ gb482 ∧ k_ ≠ gb495 ∧ k_ ≠ gb496) (.slice Ao97 t471.length co97) t471) := ⟨(by rw [hw]; exact (by (with_reducible repeat (first | apply Kd.V_alloc | apply Kd.V_drewN | apply Kd.V_drew)); exact Kd.V_mono (Kd.V_far (p := ⟨gb495, 3, none⟩) (Kd.V_far (p := ⟨gb495, 2, none⟩) (Kd.V_far (p := ⟨gb495, 1, none⟩) (Kd.V_far (p := ⟨gb495, 0, none⟩) (Kd.V_mono HO473.out (fun k_ hk => (⟨hk, hk.1.2⟩ : _ ∧ k_ ≠ gb495))) (fun _ hk => hk.2) (.int .i64 t483)) (fun _ hk => hk.2) (.int .i64 t484)) (fun _ hk => hk.2) (.slice Ao118 t485.length co118)) (fun _ hk => hk.2) (.slice Ao119 t488.length co119)) (fun _ hk => ⟨hk.1.1.1.1, ⟨hk.1.1.1.2.1, ⟨hk.1.1.1.2.2.1, ⟨hk.1.1.1.2.2.2.1, ⟨hk.1.1.1.2.2.2.2, ⟨hk.1.1.2, hk.1.2⟩⟩⟩⟩⟩⟩)))⟩; replace HO476 : Aside0 (Kd.V k57 57 w120 w.heap.size (fun k_ => k_ ≠ gb460 ∧ k_ ≠ gb461 ∧ k_ ≠ gb462 ∧ k_ ≠ gb481 ∧ k_ ≠ gb482 ∧ k_ ≠ gb495 ∧ k_ ≠ gb496) (.slice Ao98 t474.length co98) t474) := ⟨(by rw [hw]; exact (by (with_reducible repeat (first | apply Kd.V_alloc | apply Kd.V_drewN | apply Kd.V_drew)); exact Kd.V_mono (Kd.V_far (p := ⟨gb495, 3, none⟩) (Kd.V_far (p := ⟨gb495, 2, none⟩) (Kd.V_far (p := ⟨gb495, 1, none⟩) (Kd.V_far (p := ⟨gb495, 0, none⟩) (Kd.V_mono HO476.out (fun k_ hk => (⟨hk, hk.1.2⟩ : _ ∧ k_ ≠ gb495))) (fun _ hk => hk.2) (.int .i64 t483)) (fun _ hk => hk.2) (.int .i64 t484)) (fun _ hk => hk.2) (.slice Ao118 t485.length co118)) (fun _ hk => hk.2) (.slice Ao119 t488.length co119)) (fun _ hk => ⟨hk.1.1.1.1, ⟨hk.1.1.1.2.1, ⟨hk.1.1.1.2.2.1, ⟨hk.1.1.1.2.2.2.1, ⟨hk.1.1.1.2.2.2.2, ⟨hk.1.1.2, hk.1.2⟩⟩⟩⟩⟩⟩)))⟩; replace HO487 : Aside0 (Kd.V (Kd.int .i64) 3 w120 w.heap.size (fun k_ => k_ ≠ gb460 ∧ k_ ≠ gb461 ∧ k_ ≠ gb462 ∧ k_ ≠ gb481 ∧ k_ ≠ gb482 ∧ k_ ≠ gb495 ∧ k_ ≠ gb496) (.slice Ao118 t485.length co118) t485) := ⟨(by rw [hw]; exact (by (with_reducible repeat (first | apply Kd.V_alloc | apply Kd.V_drewN | apply Kd.V_drew)); exact Kd.V_mono (Kd.V_far (p := ⟨gb495, 3, none⟩) (Kd.V_far (p := ⟨gb495, 2, none⟩) (Kd.V_far (p := ⟨gb495, 1, none⟩) (Kd.V_far (p := ⟨gb495, 0, none⟩) (Kd.V_mono HO487.out (fun k_ hk => (⟨hk, hk.1.2⟩ : _ ∧ k_ ≠ gb495))) (fun _ hk => hk.2) (.int .i64 t483)) (fun _ hk => hk.2) (.int .i64 t484)) (fun _ hk => hk.2) (.slice Ao118 t485.length co118)) (fun _ hk => hk.2) (.slice Ao119 t488.length co119)) (fun _ hk => ⟨hk.1.1.1.1, ⟨hk.1.1.1.2.1, ⟨hk.1.1.1.2.2.1, ⟨hk.1.1.1.2.2.2.1, ⟨hk.1.1.1.2.2.2.2, ⟨hk.1.1.2, hk.1.2⟩⟩⟩⟩⟩⟩)))⟩; replace HO490 : Aside0 (Kd.V k57 57 w120 w.heap.size (fun k_ => k_ ≠ gb460 ∧ k_ ≠ gb461 ∧ k_ ≠ gb462 ∧ k_ ≠ gb481 ∧ k_ ≠ gb482 ∧ k_ ≠ gb495 ∧ k_ ≠ gb496) (.slice Ao119 t488.length co119) t488) := ⟨(by rw [hw]; exact (by (with_reducible repeat (first | apply Kd.V_alloc | apply Kd.V_drewN | apply Kd.V_drew)); exact Kd.V_mono (Kd.V_far (p := ⟨gb495, 3, none⟩) (Kd.V_far (p := ⟨gb495, 2, none⟩) (Kd.V_far (p := ⟨gb495, 1, none⟩) (Kd.V_far (p := ⟨gb495, 0, none⟩) (Kd.V_mono HO490.out (fun k_ hk => (⟨hk, hk.1.2⟩ : _ ∧ k_ ≠ gb495))) (fun _ hk => hk.2) (.int .i64 t483)) (fun _ hk => hk.2) (.int .i64 t484)) (fun _ hk => hk.2) (.slice Ao118 t485.length co118)) (fun _ hk => hk.2) (.slice Ao119 t488.length co119)) (fun _ hk => ⟨hk.1.1.1.1, ⟨hk.1.1.1.2.1, ⟨hk.1.1.1.2.2.1, ⟨hk.1.1.1.2.2.2.1, ⟨hk.1.1.1.2.2.2.2, ⟨hk.1.1.2, hk.1.2⟩⟩⟩⟩⟩⟩)))⟩; replace BK460 : Aside0 (w120.heap[gb460]? = some (.cells #[.int .i64 a0_0, .int .i64 a0_1, .int .i64 a0_2, .int .i64 a0_3] 23 (0, 0))) := ⟨(by rw [hw]; exact (by (with_reducible repeat (first | refine blk_drewN ?_ _ | refine blk_drew ?_ | refine blk_alloc ?_ _)); refine blk_far ?_ NB460_495.out _; (with_reducible repeat (first | refine blk_drewN ?_ _ | refine blk_drew ?_ | refine blk_alloc ?_ _)); refine blk_far ?_ NB460_495.out _; (with_reducible repeat (first | refine blk_drewN ?_ _ | refine blk_drew ?_ | refine blk_alloc ?_ _)); refine blk_far ?_ NB460_495.out _; (with_reducible repeat (first | refine blk_drewN ?_ _ | refine blk_drew ?_ | refine blk_alloc ?_ _)); refine blk_far ?_ NB460_495.out _; (with_reducible repeat (first | refine blk_drewN ?_ _ | refine blk_drew ?_ | refine blk_alloc ?_ _)); exact BK460.out))⟩; replace BK461 : Aside0 (w120.heap[gb461]? = some (.cells #[.int .i64 a1_0, .int .i64 a1_1, .slice A1_2 l1_2.length c1_2, .slice A1_3 l1_3.length c1_3] 27 (0, 0))) := ⟨(by rw [hw]; exact (by (with_reducible repeat (first | refine blk_drewN ?_ _ | refine blk_drew ?_ | refine blk_alloc ?_ _)); refine blk_far ?_ NB461_495.out _; (with_reducible repeat (first | refine blk_drewN ?_ _ | refine blk_drew ?_ | refine blk_alloc ?_ _)); refine blk_far ?_ NB461_495.out _; (with_reducible repeat (first | refine blk_drewN ?_ _ | refine blk_drew ?_ | refine blk_alloc ?_ _)); refine blk_far ?_ NB461_495.out _; (with_reducible repeat (first | refine blk_drewN ?_ _ | refine blk_drew ?_ | refine blk_alloc ?_ _)); refine blk_far ?_ NB461_495.out _; (with_reducible repeat (first | refine blk_drewN ?_ _ | refine blk_drew ?_ | refine blk_alloc ?_ _)); exact BK461.out))⟩; replace BK462 : Aside0 (w120.heap[gb462]? = some (.cells #[.int .i64 a2_0, .int .i64 a2_1, .int .i64 a2_2] 47 (0, 0))) := ⟨(by rw [hw]; exact (by (with_reducible repeat (first | refine blk_drewN ?_ _ | refine blk_drew ?_ | refine blk_alloc ?_ _)); refine blk_far ?_ NB462_495.out _; (with_reducible repeat (first | refine blk_drewN ?_ _ | refine blk_drew ?_ | refine blk_alloc ?_ _)); refine blk_far ?_ NB462_495.out _; (with_reducible repeat (first | refine blk_drewN ?_ _ | refine blk_drew ?_ | refine blk_alloc ?_ _)); refine blk_far ?_ NB462_495.out _; (with_reducible repeat (first | refine blk_drewN ?_ _ | refine blk_drew ?_ | refine blk_alloc ?_ _)); refine blk_far ?_ NB462_495.out _; (with_reducible repeat (first | refine blk_drewN ?_ _ | refine blk_drew ?_ | refine blk_alloc ?_ _)); exact BK462.out))⟩; replace BK481 : Aside0 (w120.heap[gb481]? = some (.cells #[.int .i64 t469, .int .i64 t470, .slice Ao97 t471.length co97, .slice Ao98 t474.length co98] 27 (0, 0))) := ⟨(by rw [hw]; exact (by (with_reducible repeat (first | refine blk_drewN ?_ _ | refine blk_drew ?_ | refine blk_alloc ?_ _)); refine blk_far ?_ NB481_495.out _; (with_reducible repeat (first | refine blk_drewN ?_ _ | refine blk_drew ?_ | refine blk_alloc ?_ _)); refine blk_far ?_ NB481_495.out _; (with_reducible repeat (first | refine blk_drewN ?_ _ | refine blk_drew ?_ | refine blk_alloc ?_ _)); refine blk_far ?_ NB481_495.out _; (with_reducible repeat (first | refine blk_drewN ?_ _ | refine blk_drew ?_ | refine blk_alloc ?_ _)); refine blk_far ?_ NB481_495.out _; (with_reducible repeat (first | refine blk_drewN ?_ _ | refine blk_drew ?_ | refine blk_alloc ?_ _)); exact BK481.out))⟩; replace BK482 : Aside0 (w120.heap[gb482]? = some (.cells #[.bool t477, .int .i64 t478, .int .i64 t479, .int .i64 t480] 32 (0, 0))) := ⟨(by rw [hw]; exact (by (with_reducible repeat (first | refine blk_drewN ?_ _ | refine blk_drew ?_ | refine blk_alloc ?_ _)); refine blk_far ?_ NB482_495.out _; (with_reducible repeat (first | refine blk_drewN ?_ _ | refine blk_drew ?_ | refine blk_alloc ?_ _)); refine blk_far ?_ NB482_495.out _; (with_reducible repeat (first | refine blk_drewN ?_ _ | refine blk_drew ?_ | refine blk_alloc ?_ _)); refine blk_far ?_ NB482_495.out _; (with_reducible repeat (first | refine blk_drewN ?_ _ | refine blk_drew ?_ | refine blk_alloc ?_ _)); refine blk_far ?_ NB482_495.out _; (with_reducible repeat (first | refine blk_drewN ?_ _ | refine blk_drew ?_ | refine blk_alloc ?_ _)); exact BK482.out))⟩; replace BK495 : Aside0 (w120.heap[gb495]? = some (.cells #[.int .i64 t483, .int .i64 t484, .slice Ao118 t485.length co118, .slice Ao119 t488.length co119] 27 (0, 0))) := ⟨(by rw [hw]; exact (by (with_reducible repeat (first | refine blk_drewN ?_ _ | refine blk_drew ?_ | refine blk_alloc ?_ _)); refine blk_put (cs := #[.int .i64 t483, .int .i64 t484, .slice Ao118 t485.length co118, .slice none 0 0]) ?_ 3 _ rfl; (with_reducible repeat (first | refine blk_drewN ?_ _ | refine blk_drew ?_ | refine blk_alloc ?_ _)); refine blk_put (cs := #[.int .i64 t483, .int .i64 t484, .slice none 0 0, .slice none 0 0]) ?_ 2 _ rfl; (with_reducible repeat (first | refine blk_drewN ?_ _ | refine blk_drew ?_ | refine blk_alloc ?_ _)); refine blk_put (cs := #[.int .i64 t483, .int .i64 0, .slice none 0 0, .slice none 0 0]) ?_ 1 _ rfl; (with_reducible repeat (first | refine blk_drewN ?_ _ | refine blk_drew ?_ | refine blk_alloc ?_ _)); refine blk_put (cs := #[.int .i64 0, .int .i64 0, .slice none 0 0, .slice none 0 0]) ?_ 0 _ rfl; (with_reducible repeat (first | refine blk_drewN ?_ _ | refine blk_drew ?_ | refine blk_alloc ?_ _)); exact BK495.out))⟩; replace BK496 : Aside0 (w120.heap[gb496]? = some (.cells #[.bool false, .int .i64 0, .int .i64 0, .int .i64 0] 32 (0, 0))) := ⟨(by rw [hw]; exact (by (with_reducible repeat (first | refine blk_drewN ?_ _ | refine blk_drew ?_ | refine blk_alloc ?_ _)); refine blk_far ?_ NB496_495.out _; (with_reducible repeat (first | refine blk_drewN ?_ _ | refine blk_drew ?_ | refine blk_alloc ?_ _)); refine blk_far ?_ NB496_495.out _; (with_reducible repeat (first | refine blk_drewN ?_ _ | refine blk_drew ?_ | refine blk_alloc ?_ _)); refine blk_far ?_ NB496_495.out _; (with_reducible repeat (first | refine blk_drewN ?_ _ | refine blk_drew ?_ | refine blk_alloc ?_ _)); refine blk_far ?_ NB496_495.out _; (with_reducible repeat (first | refine blk_drewN ?_ _ | refine blk_drew ?_ | refine blk_alloc ?_ _)); exact BK496.out))⟩; replace HB : Aside0 (Below w.heap.size w w120) := ⟨(by rw [hw]; exact (bl HB))⟩; clear hw; have hnb121 := NB496_460.out; have hnc121 := NB460_496.out; have hnb122 := NB496_461.out; have hnc122 := NB461_496.out; have hnb123 := NB496_462.out; have hnc123 := NB462_496.out; have hnb124 := NB496_481.out; have hnc124 := NB481_496.out; have hnb125 := NB496_482.out; have hnc125 := NB482_496.out; obtain ⟨hcz126_0, hcz126_1, hcz126_2, hcz126_3⟩ := ce4 BK496; obtain ⟨hfz126_0, hfz126_1, hfz126_2, hfz126_3⟩ := fr4 BK496) | ((with_reducible refine gate_store (t := 32) (p := 10) rfl ?_); refine store_event (t := 32) (p := 10) (v := ?vo_w127) (w1 := ((((w120.setCell ⟨gb496, 0, none⟩ (.bool t491)).setCell ⟨gb496, 1, none⟩ (.int .i64 t492)).setCell ⟨gb496, 2, none⟩ (.int .i64 t493)).setCell ⟨gb496, 3, none⟩ (.int .i64 t494))) ?hg ?ho ?hn ?hr ?_; (case ho => rfl); (case hg => rfl); (case hn => rfl); (case hr => first | (go_simp; done) | (go_simp; rfl)); intro w127 hw; replace HO473 : Aside0 (Kd.V (Kd.int .i64) 3 w127 w.heap.size (fun k_ => k_ ≠ gb460 ∧ k_ ≠ gb461 ∧ k_ ≠ gb462 ∧ k_ ≠ gb481 ∧ k_ ≠ gb482 ∧ k_ ≠ gb495 ∧ k_ ≠ gb496) (.slice Ao97 t471.length co97) t471) := ⟨(by rw [hw]; exact (by (with_reducible repeat (first | apply Kd.V_alloc | apply Kd.V_drewN | apply Kd.V_drew)); exact Kd.V_mono (Kd.V_far (p := ⟨gb496, 3, none⟩) (Kd.V_far (p := ⟨gb496, 2, none⟩) (Kd.V_far (p := ⟨gb496, 1, none⟩) (Kd.V_far (p := ⟨gb496, 0, none⟩) (Kd.V_mono HO473.out (fun k_ hk => (⟨hk, hk.2.2.2.2.2.2⟩ : _ ∧ k_ ≠ gb496))) (fun _ hk => hk.2) (.bool t491)) (fun _ hk => hk.2) (.int .i64 t492)) (fun _ hk => hk.2) (.int .i64 t493)) (fun _ hk => hk.2) (.int .i64 t494)) (fun _ hk => ⟨hk.1.1, ⟨hk.1.2.1, ⟨hk.1.2.2.1, ⟨hk.1.2.2.2.1, ⟨hk.1.2.2.2.2.1, ⟨hk.1.2.2.2.2.2.1, hk.1.2.2.2.2.2.2⟩⟩⟩⟩⟩⟩)))⟩; replace HO476 : Aside0 (Kd.V k57 57 w127 w.heap.size (fun k_ => k_ ≠ gb460 ∧ k_ ≠ gb461 ∧ k_ ≠ gb462 ∧ k_ ≠ gb481 ∧ k_ ≠ gb482 ∧ k_ ≠ gb495 ∧ k_ ≠ gb496) (.slice Ao98 t474.length co98) t474) := ⟨(by rw [hw]; exact (by (with_reducible repeat (first | apply Kd.V_alloc | apply Kd.V_drewN | apply Kd.V_drew)); exact Kd.V_mono (Kd.V_far (p := ⟨gb496, 3, none⟩) (Kd.V_far (p := ⟨gb496, 2, none⟩) (Kd.V_far (p := ⟨gb496, 1, none⟩) (Kd.V_far (p := ⟨gb496, 0, none⟩) (Kd.V_mono HO476.out (fun k_ hk => (⟨hk, hk.2.2.2.2.2.2⟩ : _ ∧ k_ ≠ gb496))) (fun _ hk => hk.2) (.bool t491)) (fun _ hk => hk.2) (.int .i64 t492)) (fun _ hk => hk.2) (.int .i64 t493)) (fun _ hk => hk.2) (.int .i64 t494)) (fun _ hk => ⟨hk.1.1, ⟨hk.1.2.1, ⟨hk.1.2.2.1, ⟨hk.1.2.2.2.1, ⟨hk.1.2.2.2.2.1, ⟨hk.1.2.2.2.2.2.1, hk.1.2.2.2.2.2.2⟩⟩⟩⟩⟩⟩)))⟩; replace HO487 : Aside0 (Kd.V (Kd.int .i64) 3 w127 w.heap.size (fun k_ => k_ ≠ gb460 ∧ k_ ≠ gb461 ∧ k_ ≠ gb462 ∧ k_ ≠ gb481 ∧ k_ ≠ gb482 ∧ k_ ≠ gb495 ∧ k_ ≠ gb496) (.slice Ao118 t485.length co118) t485) := ⟨(by rw [hw]; exact (by (with_reducible repeat (first | apply Kd.V_alloc | apply Kd.V_drewN | apply Kd.V_drew)); exact Kd.V_mono (Kd.V_far (p := ⟨gb496, 3, none⟩) (Kd.V_far (p := ⟨gb496, 2, none⟩) (Kd.V_far (p := ⟨gb496, 1, none⟩) (Kd.V_far (p := ⟨gb496, 0, none⟩) (Kd.V_mono HO487.out (fun k_ hk => (⟨hk, hk.2.2.2.2.2.2⟩ : _ ∧ k_ ≠ gb496))) (fun _ hk => hk.2) (.bool t491)) (fun _ hk => hk.2) (.int .i64 t492)) (fun _ hk => hk.2) (.int .i64 t493)) (fun _ hk => hk.2) (.int .i64 t494)) (fun _ hk => ⟨hk.1.1, ⟨hk.1.2.1, ⟨hk.1.2.2.1, ⟨hk.1.2.2.2.1, ⟨hk.1.2.2.2.2.1, ⟨hk.1.2.2.2.2.2.1, hk.1.2.2.2.2.2.2⟩⟩⟩⟩⟩⟩)))⟩; replace HO490 : Aside0 (Kd.V k57 57 w127 w.heap.size (fun k_ => k_ ≠ gb460 ∧ k_ ≠ gb461 ∧ k_ ≠ gb462 ∧ k_ ≠ gb481 ∧ k_ ≠ gb482 ∧ k_ ≠ gb495 ∧ k_ ≠ gb496) (.slice Ao119 t488.length co119) t488) := ⟨(by rw [hw]; exact (by (with_reducible repeat (first | apply Kd.V_alloc | apply Kd.V_drewN | apply Kd.V_drew)); exact Kd.V_mono (Kd.V_far (p := ⟨gb496, 3, none⟩) (Kd.V_far (p := ⟨gb496, 2, none⟩) (Kd.V_far (p := ⟨gb496, 1, none⟩) (Kd.V_far (p := ⟨gb496, 0, none⟩) (Kd.V_mono HO490.out (fun k_ hk => (⟨hk, hk.2.2.2.2.2.2⟩ : _ ∧ k_ ≠ gb496))) (fun _ hk => hk.2) (.bool t491)) (fun _ hk => hk.2) (.int .i64 t492)) (fun _ hk => hk.2) (.int .i64 t493)) (fun _ hk => hk.2) (.int .i64 t494)) (fun _ hk => ⟨hk.1.1, ⟨hk.1.2.1, ⟨hk.1.2.2.1, ⟨hk.1.2.2.2.1, ⟨hk.1.2.2.2.2.1, ⟨hk.1.2.2.2.2.2.1, hk.1.2.2.2.2.2.2⟩⟩⟩⟩⟩⟩)))⟩; replace BK460 : Aside0 (w127.heap[gb460]? = some (.cells #[.int .i64 a0_0, .int .i64 a0_1, .int .i64 a0_2, .int .i64 a0_3] 23 (0, 0))) := ⟨(by rw [hw]; exact (by (with_reducible repeat (first | refine blk_drewN ?_ _ | refine blk_drew ?_ | refine blk_alloc ?_ _)); refine blk_far ?_ NB460_496.out _; (with_reducible repeat (first | refine blk_drewN ?_ _ | refine blk_drew ?_ | refine blk_alloc ?_ _)); refine blk_far ?_ NB460_496.out _; (with_reducible repeat (first | refine blk_drewN ?_ _ | refine blk_drew ?_ | refine blk_alloc ?_ _)); refine blk_far ?_ NB460_496.out _; (with_reducible repeat (first | refine blk_drewN ?_ _ | refine blk_drew ?_ | refine blk_alloc ?_ _)); refine blk_far ?_ NB460_496.out _; (with_reducible repeat (first | refine blk_drewN ?_ _ | refine blk_drew ?_ | refine blk_alloc ?_ _)); exact BK460.out))⟩; replace BK461 : Aside0 (w127.heap[gb461]? = some (.cells #[.int .i64 a1_0, .int .i64 a1_1, .slice A1_2 l1_2.length c1_2, .slice A1_3 l1_3.length c1_3] 27 (0, 0))) := ⟨(by rw [hw]; exact (by (with_reducible repeat (first | refine blk_drewN ?_ _ | refine blk_drew ?_ | refine blk_alloc ?_ _)); refine blk_far ?_ NB461_496.out _; (with_reducible repeat (first | refine blk_drewN ?_ _ | refine blk_drew ?_ | refine blk_alloc ?_ _)); refine blk_far ?_ NB461_496.out _; (with_reducible repeat (first | refine blk_drewN ?_ _ | refine blk_drew ?_ | refine blk_alloc ?_ _)); refine blk_far ?_ NB461_496.out _; (with_reducible repeat (first | refine blk_drewN ?_ _ | refine blk_drew ?_ | refine blk_alloc ?_ _)); refine blk_far ?_ NB461_496.out _; (with_reducible repeat (first | refine blk_drewN ?_ _ | refine blk_drew ?_ | refine blk_alloc ?_ _)); exact BK461.out))⟩; replace BK462 : Aside0 (w127.heap[gb462]? = some (.cells #[.int .i64 a2_0, .int .i64 a2_1, .int .i64 a2_2] 47 (0, 0))) := ⟨(by rw [hw]; exact (by (with_reducible repeat (first | refine blk_drewN ?_ _ | refine blk_drew ?_ | refine blk_alloc ?_ _)); refine blk_far ?_ NB462_496.out _; (with_reducible repeat (first | refine blk_drewN ?_ _ | refine blk_drew ?_ | refine blk_alloc ?_ _)); refine blk_far ?_ NB462_496.out _; (with_reducible repeat (first | refine blk_drewN ?_ _ | refine blk_drew ?_ | refine blk_alloc ?_ _)); refine blk_far ?_ NB462_496.out _; (with_reducible repeat (first | refine blk_drewN ?_ _ | refine blk_drew ?_ | refine blk_alloc ?_ _)); refine blk_far ?_ NB462_496.out _; (with_reducible repeat (first | refine blk_drewN ?_ _ | refine blk_drew ?_ | refine blk_alloc ?_ _)); exact BK462.out))⟩; replace BK481 : Aside0 (w127.heap[gb481]? = some (.cells #[.int .i64 t469, .int .i64 t470, .slice Ao97 t471.length co97, .slice Ao98 t474.length co98] 27 (0, 0))) := ⟨(by rw [hw]; exact (by (with_reducible repeat (first | refine blk_drewN ?_ _ | refine blk_drew ?_ | refine blk_alloc ?_ _)); refine blk_far ?_ NB481_496.out _; (with_reducible repeat (first | refine blk_drewN ?_ _ | refine blk_drew ?_ | refine blk_alloc ?_ _)); refine blk_far ?_ NB481_496.out _; (with_reducible repeat (first | refine blk_drewN ?_ _ | refine blk_drew ?_ | refine blk_alloc ?_ _)); refine blk_far ?_ NB481_496.out _; (with_reducible repeat (first | refine blk_drewN ?_ _ | refine blk_drew ?_ | refine blk_alloc ?_ _)); refine blk_far ?_ NB481_496.out _; (with_reducible repeat (first | refine blk_drewN ?_ _ | refine blk_drew ?_ | refine blk_alloc ?_ _)); exact BK481.out))⟩; replace BK482 : Aside0 (w127.heap[gb482]? = some (.cells #[.bool t477, .int .i64 t478, .int .i64 t479, .int .i64 t480] 32 (0, 0))) := ⟨(by rw [hw]; exact (by (with_reducible repeat (first | refine blk_drewN ?_ _ | refine blk_drew ?_ | refine blk_alloc ?_ _)); refine blk_far ?_ NB482_496.out _; (with_reducible repeat (first | refine blk_drewN ?_ _ | refine blk_drew ?_ | refine blk_alloc ?_ _)); refine blk_far ?_ NB482_496.out _; (with_reducible repeat (first | refine blk_drewN ?_ _ | refine blk_drew ?_ | refine blk_alloc ?_ _)); refine blk_far ?_ NB482_496.out _; (with_reducible repeat (first | refine blk_drewN ?_ _ | refine blk_drew ?_ | refine blk_alloc ?_ _)); refine blk_far ?_ NB482_496.out _; (with_reducible repeat (first | refine blk_drewN ?_ _ | refine blk_drew ?_ | refine blk_alloc ?_ _)); exact BK482.out))⟩; replace BK495 : Aside0 (w127.heap[gb495]? = some (.cells #[.int .i64 t483, .int .i64 t484, .slice Ao118 t485.length co118, .slice Ao119 t488.length co119] 27 (0, 0))) := ⟨(by rw [hw]; exact (by (with_reducible repeat (first | refine blk_drewN ?_ _ | refine blk_drew ?_ | refine blk_alloc ?_ _)); refine blk_far ?_ NB495_496.out _; (with_reducible repeat (first | refine blk_drewN ?_ _ | refine blk_drew ?_ | refine blk_alloc ?_ _)); refine blk_far ?_ NB495_496.out _; (with_reducible repeat (first | refine blk_drewN ?_ _ | refine blk_drew ?_ | refine blk_alloc ?_ _)); refine blk_far ?_ NB495_496.out _; (with_reducible repeat (first | refine blk_drewN ?_ _ | refine blk_drew ?_ | refine blk_alloc ?_ _)); refine blk_far ?_ NB495_496.out _; (with_reducible repeat (first | refine blk_drewN ?_ _ | refine blk_drew ?_ | refine blk_alloc ?_ _)); exact BK495.out))⟩; replace BK496 : Aside0 (w127.heap[gb496]? = some (.cells #[.bool t491, .int .i64 t492, .int .i64 t493, .int .i64 t494] 32 (0, 0))) := ⟨(by rw [hw]; exact (by (with_reducible repeat (first | refine blk_drewN ?_ _ | refine blk_drew ?_ | refine blk_alloc ?_ _)); refine blk_put (cs := #[.bool t491, .int .i64 t492, .int .i64 t493, .int .i64 0]) ?_ 3 _ rfl; (with_reducible repeat (first | refine blk_drewN ?_ _ | refine blk_drew ?_ | refine blk_alloc ?_ _)); refine blk_put (cs := #[.bool t491, .int .i64 t492, .int .i64 0, .int .i64 0]) ?_ 2 _ rfl; (with_reducible repeat (first | refine blk_drewN ?_ _ | refine blk_drew ?_ | refine blk_alloc ?_ _)); refine blk_put (cs := #[.bool t491, .int .i64 0, .int .i64 0, .int .i64 0]) ?_ 1 _ rfl; (with_reducible repeat (first | refine blk_drewN ?_ _ | refine blk_drew ?_ | refine blk_alloc ?_ _)); refine blk_put (cs := #[.bool false, .int .i64 0, .int .i64 0, .int .i64 0]) ?_ 0 _ rfl; (with_reducible repeat (first | refine blk_drewN ?_ _ | refine blk_drew ?_ | refine blk_alloc ?_ _)); exact BK496.out))⟩; replace HB : Aside0 (Below w.heap.size w w127) := ⟨(by rw [hw]; exact (bl HB))⟩; clear hw; obtain ⟨hcz128_0, hcz128_1, hcz128_2, hcz128_3⟩ := ce4 BK460; obtain ⟨hfz128_0, hfz128_1, hfz128_2, hfz128_3⟩ := fr4 BK460; obtain ⟨hcz129_0, hcz129_1, hcz129_2, hcz129_3⟩ := ce4 BK461; obtain ⟨hfz129_0, hfz129_1, hfz129_2, hfz129_3⟩ := fr4 BK461; obtain ⟨hcz130_0, hcz130_1, hcz130_2⟩ := ce3 BK462; obtain ⟨hfz130_0, hfz130_1, hfz130_2⟩ := fr3 BK462) | ((with_reducible refine gate_callee (f := 10) rfl ?_); refine goesL_ (some 85) rfl rfl Try.func10 (by kernel_rfl) rfl #[.agg #[.int .i64 a0_0, .int .i64 a0_1, .int .i64 a0_2, .int .i64 a0_3], .agg #[.int .i64 a1_0, .int .i64 a1_1, .slice A1_2 l1_2.length c1_2, .slice A1_3 l1_3.length c1_3], .int .i64 a2_0, .int .i64 (wrap64 (a2_1 + a2_2))] rfl (by (try simp only [List.map_toArray, List.map_cons, List.map_nil]); first | done | rfl | (simp only [List.length_drop, List.length_take]; rfl)) ?_; (with_reducible refine (gcra_Ask.calls kj3 a0_0 a0_1 a0_2 a0_3 a1_0 a1_1 (fun k_ => k_ < w.heap.size) _ _ l1_2 (fun k_ => k_ < w.heap.size) _ _ l1_3 a2_0 (wrap64 (a2_1 + a2_2)) t497 t498 t499 t502 t505 t506 t507 t508 _ ?side1 ?side2 A81.out).mono ?_); (case side1 => exact Kd.V_mk HC1_2.out (Kd.F_below (Kd.C_F (Kd.heap_int .i64) HR1_2.out) (bl HB))); (case side2 => exact Kd.V_mk HC1_3.out (Kd.F_below (Kd.C_F k57_heap HR1_3.out) (bl HB))); rintro e w131 ⟨v500, v503, rfl, ho0, ho1, hb⟩; refine ⟨_, rfl, ?_⟩; have HO501 := Aside0.mk (Kd.V_lower (Kd.V_mono (ok' := fun k_ => k_ ≠ gb460 ∧ k_ ≠ gb461 ∧ k_ ≠ gb462 ∧ k_ ≠ gb481 ∧ k_ ≠ gb482 ∧ k_ ≠ gb495 ∧ k_ ≠ gb496) ho0 (fun k_ hk_ => ⟨Or.elim hk_ (fun hs_ => Or.elim hs_ (fun hs_ => fun e_ => Nat.not_le.2 hs_ (by rw [e_]; exact GW460.out)) (fun hs_ => fun e_ => Nat.not_le.2 hs_ (by rw [e_]; exact GW460.out))) (fun hn_ => (Kd.freshB (bo BK460) k_ hn_)), Or.elim hk_ (fun hs_ => Or.elim hs_ (fun hs_ => fun e_ => Nat.not_le.2 hs_ (by rw [e_]; exact GW461.out)) (fun hs_ => fun e_ => Nat.not_le.2 hs_ (by rw [e_]; exact GW461.out))) (fun hn_ => (Kd.freshB (bo BK461) k_ hn_)), Or.elim hk_ (fun hs_ => Or.elim hs_ (fun hs_ => fun e_ => Nat.not_le.2 hs_ (by rw [e_]; exact GW462.out)) (fun hs_ => fun e_ => Nat.not_le.2 hs_ (by rw [e_]; exact GW462.out))) (fun hn_ => (Kd.freshB (bo BK462) k_ hn_)), Or.elim hk_ (fun hs_ => Or.elim hs_ (fun hs_ => fun e_ => Nat.not_le.2 hs_ (by rw [e_]; exact GW481.out)) (fun hs_ => fun e_ => Nat.not_le.2 hs_ (by rw [e_]; exact GW481.out))) (fun hn_ => (Kd.freshB (bo BK481) k_ hn_)), Or.elim hk_ (fun hs_ => Or.elim hs_ (fun hs_ => fun e_ => Nat.not_le.2 hs_ (by rw [e_]; exact GW482.out)) (fun hs_ => fun e_ => Nat.not_le.2 hs_ (by rw [e_]; exact GW482.out))) (fun hn_ => (Kd.freshB (bo BK482) k_ hn_)), Or.elim hk_ (fun hs_ => Or.elim hs_ (fun hs_ => fun e_ => Nat.not_le.2 hs_ (by rw [e_]; exact GW495.out)) (fun hs_ => fun e_ => Nat.not_le.2 hs_ (by rw [e_]; exact GW495.out))) (fun hn_ => (Kd.freshB (bo BK495) k_ hn_)), Or.elim hk_ (fun hs_ => Or.elim hs_ (fun hs_ => fun e_ => Nat.not_le.2 hs_ (by rw [e_]; exact GW496.out)) (fun hs_ => fun e_ => Nat.not_le.2 hs_ (by rw [e_]; exact GW496.out))) (fun hn_ => (Kd.freshB (bo BK496) k_ hn_))⟩)) (below_size (bl HB))); have HO504 := Aside0.mk (Kd.V_lower (Kd.V_mono (ok' := fun k_ => k_ ≠ gb460 ∧ k_ ≠ gb461 ∧ k_ ≠ gb462 ∧ k_ ≠ gb481 ∧ k_ ≠ gb482 ∧ k_ ≠ gb495 ∧ k_ ≠ gb496) ho1 (fun k_ hk_ => ⟨Or.elim hk_ (fun hs_ => Or.elim hs_ (fun hs_ => fun e_ => Nat.not_le.2 hs_ (by rw [e_]; exact GW460.out)) (fun hs_ => fun e_ => Nat.not_le.2 hs_ (by rw [e_]; exact GW460.out))) (fun hn_ => (Kd.freshB (bo BK460) k_ hn_)), Or.elim hk_ (fun hs_ => Or.elim hs_ (fun hs_ => fun e_ => Nat.not_le.2 hs_ (by rw [e_]; exact GW461.out)) (fun hs_ => fun e_ => Nat.not_le.2 hs_ (by rw [e_]; exact GW461.out))) (fun hn_ => (Kd.freshB (bo BK461) k_ hn_)), Or.elim hk_ (fun hs_ => Or.elim hs_ (fun hs_ => fun e_ => Nat.not_le.2 hs_ (by rw [e_]; exact GW462.out)) (fun hs_ => fun e_ => Nat.not_le.2 hs_ (by rw [e_]; exact GW462.out))) (fun hn_ => (Kd.freshB (bo BK462) k_ hn_)), Or.elim hk_ (fun hs_ => Or.elim hs_ (fun hs_ => fun e_ => Nat.not_le.2 hs_ (by rw [e_]; exact GW481.out)) (fun hs_ => fun e_ => Nat.not_le.2 hs_ (by rw [e_]; exact GW481.out))) (fun hn_ => (Kd.freshB (bo BK481) k_ hn_)), Or.elim hk_ (fun hs_ => Or.elim hs_ (fun hs_ => fun e_ => Nat.not_le.2 hs_ (by rw [e_]; exact GW482.out)) (fun hs_ => fun e_ => Nat.not_le.2 hs_ (by rw [e_]; exact GW482.out))) (fun hn_ => (Kd.freshB (bo BK482) k_ hn_)), Or.elim hk_ (fun hs_ => Or.elim hs_ (fun hs_ => fun e_ => Nat.not_le.2 hs_ (by rw [e_]; exact GW495.out)) (fun hs_ => fun e_ => Nat.not_le.2 hs_ (by rw [e_]; exact GW495.out))) (fun hn_ => (Kd.freshB (bo BK495) k_ hn_)), Or.elim hk_ (fun hs_ => Or.elim hs_ (fun hs_ => fun e_ => Nat.not_le.2 hs_ (by rw [e_]; exact GW496.out)) (fun hs_ => fun e_ => Nat.not_le.2 hs_ (by rw [e_]; exact GW496.out))) (fun hn_ => (Kd.freshB (bo BK496) k_ hn_))⟩)) (below_size (bl HB))); replace HO473 := vb HO473 hb; replace HO476 := vb HO476 hb; replace HO487 := vb HO487 hb; replace HO490 := vb HO490 hb; replace BK460 := Aside0.mk (blk_below (bo BK460) hb); replace BK461 := Aside0.mk (blk_below (bo BK461) hb); replace BK462 := Aside0.mk (blk_below (bo BK462) hb); replace BK481 := Aside0.mk (blk_below (bo BK481) hb); replace BK482 := Aside0.mk (blk_below (bo BK482) hb); replace BK495 := Aside0.mk (blk_below (bo BK495) hb); replace BK496 := Aside0.mk (blk_below (bo BK496) hb); replace HB := Aside0.mk (below_step (bl HB) hb); (try clear hb); (try clear hb2); (try clear hk); (try clear hi); (try clear ho0); (try clear ho1)) | ((with_reducible refine gate_dst (N := 11) rfl ?_); refine box_event ?hg (N := 11) ?hd (cs := #[.int .i64 0, .int .i64 0, .slice none 0 0, .slice none 0 0]) (t := 27) ?hr ?_; (case hd => rfl); (case hg => rfl); (case hr => first | (go_simp; done) | (go_simp; rfl)); intro gb509 hg w132 hbox hb; have BK509 := Aside0.mk (hbox); have GW509 := Aside0.mk ((by rw [hg]; exact (below_size (bl HB)) : w.heap.size ≤ gb509)); have GE509 := Aside0.mk ((by rw [hg]; exact (below_size (bl HB)) : w.heap.size ≤ gb509)); have NB460_509 := nb BK460 hg; have NB509_460 := bn BK460 hg; have NB461_509 := nb BK461 hg; have NB509_461 := bn BK461 hg; have NB462_509 := nb BK462 hg; have NB509_462 := bn BK462 hg; have NB481_509 := nb BK481 hg; have NB509_481 := bn BK481 hg; have NB482_509 := nb BK482 hg; have NB509_482 := bn BK482 hg; have NB495_509 := nb BK495 hg; have NB509_495 := bn BK495 hg; have NB496_509 := nb BK496 hg; have NB509_496 := bn BK496 hg; replace HO473 := ve HO473 hg hb; replace HO476 := ve HO476 hg hb; replace HO487 := ve HO487 hg hb; replace HO490 := ve HO490 hg hb; replace HO501 := ve HO501 hg hb; replace HO504 := ve HO504 hg hb; replace BK460 := Aside0.mk (blk_below (bo BK460) hb); replace BK461 := Aside0.mk (blk_below (bo BK461) hb); replace BK462 := Aside0.mk (blk_below (bo BK462) hb); replace BK481 := Aside0.mk (blk_below (bo BK481) hb); replace BK482 := Aside0.mk (blk_below (bo BK482) hb); replace BK495 := Aside0.mk (blk_below (bo BK495) hb); replace BK496 := Aside0.mk (blk_below (bo BK496) hb); replace HB := Aside0.mk (below_step (bl HB) hb); clear hb hbox hg) | ((with_reducible refine gate_dst (N := 12) rfl ?_); refine box_event ?hg (N := 12) ?hd (cs := #[.bool false, .int .i64 0, .int .i64 0, .int .i64 0]) (t := 32) ?hr ?_; (case hd => rfl); (case hg => rfl); (case hr => first | (go_simp; done) | (go_simp; rfl)); intro gb510 hg w133 hbox hb; have BK510 := Aside0.mk (hbox); have GW510 := Aside0.mk ((by rw [hg]; exact (below_size (bl HB)) : w.heap.size ≤ gb510)); have GE510 := Aside0.mk ((by rw [hg]; exact (below_size (bl HB)) : w.heap.size ≤ gb510)); have NB460_510 := nb BK460 hg; have NB510_460 := bn BK460 hg; have NB461_510 := nb BK461 hg; have NB510_461 := bn BK461 hg; have NB462_510 := nb BK462 hg; have NB510_462 := bn BK462 hg; have NB481_510 := nb BK481 hg; have NB510_481 := bn BK481 hg; have NB482_510 := nb BK482 hg; have NB510_482 := bn BK482 hg; have NB495_510 := nb BK495 hg; have NB510_495 := bn BK495 hg; have NB496_510 := nb BK496 hg; have NB510_496 := bn BK496 hg; have NB509_510 := nb BK509 hg; have NB510_509 := bn BK509 hg; replace HO473 := ve HO473 hg hb; replace HO476 := ve HO476 hg hb; replace HO487 := ve HO487 hg hb; replace HO490 := ve HO490 hg hb; replace HO501 := ve HO501 hg hb; replace HO504 := ve HO504 hg hb; replace BK460 := Aside0.mk (blk_below (bo BK460) hb); replace BK461 := Aside0.mk (blk_below (bo BK461) hb); replace BK462 := Aside0.mk (blk_below (bo BK462) hb); replace BK481 := Aside0.mk (blk_below (bo BK481) hb); replace BK482 := Aside0.mk (blk_below (bo BK482) hb); replace BK495 := Aside0.mk (blk_below (bo BK495) hb); replace BK496 := Aside0.mk (blk_below (bo BK496) hb); replace BK509 := Aside0.mk (blk_below (bo BK509) hb); replace HB := Aside0.mk (below_step (bl HB) hb); clear hb hbox hg; have hnb134 := NB509_460.out; have hnc134 := NB460_509.out; have hnb135 := NB509_461.out; have hnc135 := NB461_509.out; have hnb136 := NB509_462.out; have hnc136 := NB462_509.out; have hnb137 := NB509_481.out; have hnc137 := NB481_509.out; have hnb138 := NB509_482.out; have hnc138 := NB482_509.out; have hnb139 := NB509_495.out; have hnc139 := NB495_509.out; have hnb140 := NB509_496.out; have hnc140 := NB496_509.out; have hnb141 := NB509_510.out; have hnc141 := NB510_509.out; obtain ⟨hcz142_0, hcz142_1, hcz142_2, hcz142_3⟩ := ce4 BK509; obtain ⟨hfz142_0, hfz142_1, hfz142_2, hfz142_3⟩ := fr4 BK509; obtain ⟨Ao143, co143, eo143⟩ := Kd.V_slice HO501.out; subst eo143; obtain ⟨Ao144, co144, eo144⟩ := Kd.V_slice HO504.out; subst eo144) | ((with_reducible refine gate_store (t := 27) (p := 11) rfl ?_); refine store_event (t := 27) (p := 11) (v := ?vo_w145) (w1 := ((((w133.setCell ⟨gb509, 0, none⟩ (.int .i64 t497)).setCell ⟨gb509, 1, none⟩ (.int .i64 t498)).setCell ⟨gb509, 2, none⟩ (.slice Ao143 t499.length co143)).setCell ⟨gb509, 3, none⟩ (.slice Ao144 t502.length co144))) ?hg ?ho ?hn ?hr ?_; (case ho => rfl); (case hg => rfl); (case hn => rfl); (case hr => first | (go_simp; done) | (go_simp; rfl)); intro w145 hw; replace HO473 : Aside0 (Kd.V (Kd.int .i64) 3 w145 w.heap.size (fun k_ => k_ ≠ gb460 ∧ k_ ≠ gb461 ∧ k_ ≠ gb462 ∧ k_ ≠ gb481 ∧ k_ ≠ gb482 ∧ k_ ≠ gb495 ∧ k_ ≠ gb496 ∧ k_ ≠ gb509 ∧ k_ ≠ gb510) (.slice Ao97 t471.length co97) t471) := ⟨(by rw [hw]; exact (by (with_reducible repeat (first | apply Kd.V_alloc | apply Kd.V_drewN | apply Kd.V_drew)); exact Kd.V_mono (Kd.V_far (p := ⟨gb509, 3, none⟩) (Kd.V_far (p := ⟨gb509, 2, none⟩) (Kd.V_far (p := ⟨gb509, 1, none⟩) (Kd.V_far (p := ⟨gb509, 0, none⟩) (Kd.V_mono HO473.out (fun k_ hk => (⟨hk, hk.1.2⟩ : _ ∧ k_ ≠ gb509))) (fun _ hk => hk.2) (.int .i64 t497)) (fun _ hk => hk.2) (.int .i64 t498)) (fun _ hk => hk.2) (.slice Ao143 t499.length co143)) (fun _ hk => hk.2) (.slice Ao144 t502.length co144)) (fun _ hk => ⟨hk.1.1.1.1, ⟨hk.1.1.1.2.1, ⟨hk.1.1.1.2.2.1, ⟨hk.1.1.1.2.2.2.1, ⟨hk.1.1.1.2.2.2.2.1, ⟨hk.1.1.1.2.2.2.2.2.1, ⟨hk.1.1.1.2.2.2.2.2.2, ⟨hk.1.1.2, hk.1.2⟩⟩⟩⟩⟩⟩⟩⟩)))⟩; replace HO476 : Aside0 (Kd.V k57 57 w145 w.heap.size (fun k_ => k_ ≠ gb460 ∧ k_ ≠ gb461 ∧ k_ ≠ gb462 ∧ k_ ≠ gb481 ∧ k_ ≠ gb482 ∧ k_ ≠ gb495 ∧ k_ ≠ gb496 ∧ k_ ≠ gb509 ∧ k_ ≠ gb510) (.slice Ao98 t474.length co98) t474) := ⟨(by rw [hw]; exact (by (with_reducible repeat (first | apply Kd.V_alloc | apply Kd.V_drewN | apply Kd.V_drew)); exact Kd.V_mono (Kd.V_far (p := ⟨gb509, 3, none⟩) (Kd.V_far (p := ⟨gb509, 2, none⟩) (Kd.V_far (p := ⟨gb509, 1, none⟩) (Kd.V_far (p := ⟨gb509, 0, none⟩) (Kd.V_mono HO476.out (fun k_ hk => (⟨hk, hk.1.2⟩ : _ ∧ k_ ≠ gb509))) (fun _ hk => hk.2) (.int .i64 t497)) (fun _ hk => hk.2) (.int .i64 t498)) (fun _ hk => hk.2) (.slice Ao143 t499.length co143)) (fun _ hk => hk.2) (.slice Ao144 t502.length co144)) (fun _ hk => ⟨hk.1.1.1.1, ⟨hk.1.1.1.2.1, ⟨hk.1.1.1.2.2.1, ⟨hk.1.1.1.2.2.2.1, ⟨hk.1.1.1.2.2.2.2.1, ⟨hk.1.1.1.2.2.2.2.2.1, ⟨hk.1.1.1.2.2.2.2.2.2, ⟨hk.1.1.2, hk.1.2⟩⟩⟩⟩⟩⟩⟩⟩)))⟩; replace HO487 : Aside0 (Kd.V (Kd.int .i64) 3 w145 w.heap.size (fun k_ => k_ ≠ gb460 ∧ k_ ≠ gb461 ∧ k_ ≠ gb462 ∧ k_ ≠ gb481 ∧ k_ ≠ gb482 ∧ k_ ≠ gb495 ∧ k_ ≠ gb496 ∧ k_ ≠ gb509 ∧ k_ ≠ gb510) (.slice Ao118 t485.length co118) t485) := ⟨(by rw [hw]; exact (by (with_reducible repeat (first | apply Kd.V_alloc | apply Kd.V_drewN | apply Kd.V_drew)); exact Kd.V_mono (Kd.V_far (p := ⟨gb509, 3, none⟩) (Kd.V_far (p := ⟨gb509, 2, none⟩) (Kd.V_far (p := ⟨gb509, 1, none⟩) (Kd.V_far (p := ⟨gb509, 0, none⟩) (Kd.V_mono HO487.out (fun k_ hk => (⟨hk, hk.1.2⟩ : _ ∧ k_ ≠ gb509))) (fun _ hk => hk.2) (.int .i64 t497)) (fun _ hk => hk.2) (.int .i64 t498)) (fun _ hk => hk.2) (.slice Ao143 t499.length co143)) (fun _ hk => hk.2) (.slice Ao144 t502.length co144)) (fun _ hk => ⟨hk.1.1.1.1, ⟨hk.1.1.1.2.1, ⟨hk.1.1.1.2.2.1, ⟨hk.1.1.1.2.2.2.1, ⟨hk.1.1.1.2.2.2.2.1, ⟨hk.1.1.1.2.2.2.2.2.1, ⟨hk.1.1.1.2.2.2.2.2.2, ⟨hk.1.1.2, hk.1.2⟩⟩⟩⟩⟩⟩⟩⟩)))⟩; replace HO490 : Aside0 (Kd.V k57 57 w145 w.heap.size (fun k_ => k_ ≠ gb460 ∧ k_ ≠ gb461 ∧ k_ ≠ gb462 ∧ k_ ≠ gb481 ∧ k_ ≠ gb482 ∧ k_ ≠ gb495 ∧ k_ ≠ gb496 ∧ k_ ≠ gb509 ∧ k_ ≠ gb510) (.slice Ao119 t488.length co119) t488) := ⟨(by rw [hw]; exact (by (with_reducible repeat (first | apply Kd.V_alloc | apply Kd.V_drewN | apply Kd.V_drew)); exact Kd.V_mono (Kd.V_far (p := ⟨gb509, 3, none⟩) (Kd.V_far (p := ⟨gb509, 2, none⟩) (Kd.V_far (p := ⟨gb509, 1, none⟩) (Kd.V_far (p := ⟨gb509, 0, none⟩) (Kd.V_mono HO490.out (fun k_ hk => (⟨hk, hk.1.2⟩ : _ ∧ k_ ≠ gb509))) (fun _ hk => hk.2) (.int .i64 t497)) (fun _ hk => hk.2) (.int .i64 t498)) (fun _ hk => hk.2) (.slice Ao143 t499.length co143)) (fun _ hk => hk.2) (.slice Ao144 t502.length co144)) (fun _ hk => ⟨hk.1.1.1.1, ⟨hk.1.1.1.2.1, ⟨hk.1.1.1.2.2.1, ⟨hk.1.1.1.2.2.2.1, ⟨hk.1.1.1.2.2.2.2.1, ⟨hk.1.1.1.2.2.2.2.2.1, ⟨hk.1.1.1.2.2.2.2.2.2, ⟨hk.1.1.2, hk.1.2⟩⟩⟩⟩⟩⟩⟩⟩)))⟩; replace HO501 : Aside0 (Kd.V (Kd.int .i64) 3 w145 w.heap.size (fun k_ => k_ ≠ gb460 ∧ k_ ≠ gb461 ∧ k_ ≠ gb462 ∧ k_ ≠ gb481 ∧ k_ ≠ gb482 ∧ k_ ≠ gb495 ∧ k_ ≠ gb496 ∧ k_ ≠ gb509 ∧ k_ ≠ gb510) (.slice Ao143 t499.length co143) t499) := ⟨(by rw [hw]; exact (by (with_reducible repeat (first | apply Kd.V_alloc | apply Kd.V_drewN | apply Kd.V_drew)); exact Kd.V_mono (Kd.V_far (p := ⟨gb509, 3, none⟩) (Kd.V_far (p := ⟨gb509, 2, none⟩) (Kd.V_far (p := ⟨gb509, 1, none⟩) (Kd.V_far (p := ⟨gb509, 0, none⟩) (Kd.V_mono HO501.out (fun k_ hk => (⟨hk, hk.1.2⟩ : _ ∧ k_ ≠ gb509))) (fun _ hk => hk.2) (.int .i64 t497)) (fun _ hk => hk.2) (.int .i64 t498)) (fun _ hk => hk.2) (.slice Ao143 t499.length co143)) (fun _ hk => hk.2) (.slice Ao144 t502.length co144)) (fun _ hk => ⟨hk.1.1.1.1, ⟨hk.1.1.1.2.1, ⟨hk.1.1.1.2.2.1, ⟨hk.1.1.1.2.2.2.1, ⟨hk.1.1.1.2.2.2.2.1, ⟨hk.1.1.1.2.2.2.2.2.1, ⟨hk.1.1.1.2.2.2.2.2.2, ⟨hk.1.1.2, hk.1.2⟩⟩⟩⟩⟩⟩⟩⟩)))⟩; replace HO504 : Aside0 (Kd.V k57 57 w145 w.heap.size (fun k_ => k_ ≠ gb460 ∧ k_ ≠ gb461 ∧ k_ ≠ gb462 ∧ k_ ≠ gb481 ∧ k_ ≠ gb482 ∧ k_ ≠ gb495 ∧ k_ ≠ gb496 ∧ k_ ≠ gb509 ∧ k_ ≠ gb510) (.slice Ao144 t502.length co144) t502) := ⟨(by rw [hw]; exact (by (with_reducible repeat (first | apply Kd.V_alloc | apply Kd.V_drewN | apply Kd.V_drew)); exact Kd.V_mono (Kd.V_far (p := ⟨gb509, 3, none⟩) (Kd.V_far (p := ⟨gb509, 2, none⟩) (Kd.V_far (p := ⟨gb509, 1, none⟩) (Kd.V_far (p := ⟨gb509, 0, none⟩) (Kd.V_mono HO504.out (fun k_ hk => (⟨hk, hk.1.2⟩ : _ ∧ k_ ≠ gb509))) (fun _ hk => hk.2) (.int .i64 t497)) (fun _ hk => hk.2) (.int .i64 t498)) (fun _ hk => hk.2) (.slice Ao143 t499.length co143)) (fun _ hk => hk.2) (.slice Ao144 t502.length co144)) (fun _ hk => ⟨hk.1.1.1.1, ⟨hk.1.1.1.2.1, ⟨hk.1.1.1.2.2.1, ⟨hk.1.1.1.2.2.2.1, ⟨hk.1.1.1.2.2.2.2.1, ⟨hk.1.1.1.2.2.2.2.2.1, ⟨hk.1.1.1.2.2.2.2.2.2, ⟨hk.1.1.2, hk.1.2⟩⟩⟩⟩⟩⟩⟩⟩)))⟩; replace BK460 : Aside0 (w145.heap[gb460]? = some (.cells #[.int .i64 a0_0, .int .i64 a0_1, .int .i64 a0_2, .int .i64 a0_3] 23 (0, 0))) := ⟨(by rw [hw]; exact (by (with_reducible repeat (first | refine blk_drewN ?_ _ | refine blk_drew ?_ | refine blk_alloc ?_ _)); refine blk_far ?_ NB460_509.out _; (with_reducible repeat (first | refine blk_drewN ?_ _ | refine blk_drew ?_ | refine blk_alloc ?_ _)); refine blk_far ?_ NB460_509.out _; (with_reducible repeat (first | refine blk_drewN ?_ _ | refine blk_drew ?_ | refine blk_alloc ?_ _)); refine blk_far ?_ NB460_509.out _; (with_reducible repeat (first | refine blk_drewN ?_ _ | refine blk_drew ?_ | refine blk_alloc ?_ _)); refine blk_far ?_ NB460_509.out _; (with_reducible repeat (first | refine blk_drewN ?_ _ | refine blk_drew ?_ | refine blk_alloc ?_ _)); exact BK460.out))⟩; replace BK461 : Aside0 (w145.heap[gb461]? = some (.cells #[.int .i64 a1_0, .int .i64 a1_1, .slice A1_2 l1_2.length c1_2, .slice A1_3 l1_3.length c1_3] 27 (0, 0))) := ⟨(by rw [hw]; exact (by (with_reducible repeat (first | refine blk_drewN ?_ _ | refine blk_drew ?_ | refine blk_alloc ?_ _)); refine blk_far ?_ NB461_509.out _; (with_reducible repeat (first | refine blk_drewN ?_ _ | refine blk_drew ?_ | refine blk_alloc ?_ _)); refine blk_far ?_ NB461_509.out _; (with_reducible repeat (first | refine blk_drewN ?_ _ | refine blk_drew ?_ | refine blk_alloc ?_ _)); refine blk_far ?_ NB461_509.out _; (with_reducible repeat (first | refine blk_drewN ?_ _ | refine blk_drew ?_ | refine blk_alloc ?_ _)); refine blk_far ?_ NB461_509.out _; (with_reducible repeat (first | refine blk_drewN ?_ _ | refine blk_drew ?_ | refine blk_alloc ?_ _)); exact BK461.out))⟩; replace BK462 : Aside0 (w145.heap[gb462]? = some (.cells #[.int .i64 a2_0, .int .i64 a2_1, .int .i64 a2_2] 47 (0, 0))) := ⟨(by rw [hw]; exact (by (with_reducible repeat (first | refine blk_drewN ?_ _ | refine blk_drew ?_ | refine blk_alloc ?_ _)); refine blk_far ?_ NB462_509.out _; (with_reducible repeat (first | refine blk_drewN ?_ _ | refine blk_drew ?_ | refine blk_alloc ?_ _)); refine blk_far ?_ NB462_509.out _; (with_reducible repeat (first | refine blk_drewN ?_ _ | refine blk_drew ?_ | refine blk_alloc ?_ _)); refine blk_far ?_ NB462_509.out _; (with_reducible repeat (first | refine blk_drewN ?_ _ | refine blk_drew ?_ | refine blk_alloc ?_ _)); refine blk_far ?_ NB462_509.out _; (with_reducible repeat (first | refine blk_drewN ?_ _ | refine blk_drew ?_ | refine blk_alloc ?_ _)); exact BK462.out))⟩; replace BK481 : Aside0 (w145.heap[gb481]? = some (.cells #[.int .i64 t469, .int .i64 t470, .slice Ao97 t471.length co97, .slice Ao98 t474.length co98] 27 (0, 0))) := ⟨(by rw [hw]; exact (by (with_reducible repeat (first | refine blk_drewN ?_ _ | refine blk_drew ?_ | refine blk_alloc ?_ _)); refine blk_far ?_ NB481_509.out _; (with_reducible repeat (first | refine blk_drewN ?_ _ | refine blk_drew ?_ | refine blk_alloc ?_ _)); refine blk_far ?_ NB481_509.out _; (with_reducible repeat (first | refine blk_drewN ?_ _ | refine blk_drew ?_ | refine blk_alloc ?_ _)); refine blk_far ?_ NB481_509.out _; (with_reducible repeat (first | refine blk_drewN ?_ _ | refine blk_drew ?_ | refine blk_alloc ?_ _)); refine blk_far ?_ NB481_509.out _; (with_reducible repeat (first | refine blk_drewN ?_ _ | refine blk_drew ?_ | refine blk_alloc ?_ _)); exact BK481.out))⟩; replace BK482 : Aside0 (w145.heap[gb482]? = some (.cells #[.bool t477, .int .i64 t478, .int .i64 t479, .int .i64 t480] 32 (0, 0))) := ⟨(by rw [hw]; exact (by (with_reducible repeat (first | refine blk_drewN ?_ _ | refine blk_drew ?_ | refine blk_alloc ?_ _)); refine blk_far ?_ NB482_509.out _; (with_reducible repeat (first | refine blk_drewN ?_ _ | refine blk_drew ?_ | refine blk_alloc ?_ _)); refine blk_far ?_ NB482_509.out _; (with_reducible repeat (first | refine blk_drewN ?_ _ | refine blk_drew ?_ | refine blk_alloc ?_ _)); refine blk_far ?_ NB482_509.out _; (with_reducible repeat (first | refine blk_drewN ?_ _ | refine blk_drew ?_ | refine blk_alloc ?_ _)); refine blk_far ?_ NB482_509.out _; (with_reducible repeat (first | refine blk_drewN ?_ _ | refine blk_drew ?_ | refine blk_alloc ?_ _)); exact BK482.out))⟩; replace BK495 : Aside0 (w145.heap[gb495]? = some (.cells #[.int .i64 t483, .int .i64 t484, .slice Ao118 t485.length co118, .slice Ao119 t488.length co119] 27 (0, 0))) := ⟨(by rw [hw]; exact (by (with_reducible repeat (first | refine blk_drewN ?_ _ | refine blk_drew ?_ | refine blk_alloc ?_ _)); refine blk_far ?_ NB495_509.out _; (with_reducible repeat (first | refine blk_drewN ?_ _ | refine blk_drew ?_ | refine blk_alloc ?_ _)); refine blk_far ?_ NB495_509.out _; (with_reducible repeat (first | refine blk_drewN ?_ _ | refine blk_drew ?_ | refine blk_alloc ?_ _)); refine blk_far ?_ NB495_509.out _; (with_reducible repeat (first | refine blk_drewN ?_ _ | refine blk_drew ?_ | refine blk_alloc ?_ _)); refine blk_far ?_ NB495_509.out _; (with_reducible repeat (first | refine blk_drewN ?_ _ | refine blk_drew ?_ | refine blk_alloc ?_ _)); exact BK495.out))⟩; replace BK496 : Aside0 (w145.heap[gb496]? = some (.cells #[.bool t491, .int .i64 t492, .int .i64 t493, .int .i64 t494] 32 (0, 0))) := ⟨(by rw [hw]; exact (by (with_reducible repeat (first | refine blk_drewN ?_ _ | refine blk_drew ?_ | refine blk_alloc ?_ _)); refine blk_far ?_ NB496_509.out _; (with_reducible repeat (first | refine blk_drewN ?_ _ | refine blk_drew ?_ | refine blk_alloc ?_ _)); refine blk_far ?_ NB496_509.out _; (with_reducible repeat (first | refine blk_drewN ?_ _ | refine blk_drew ?_ | refine blk_alloc ?_ _)); refine blk_far ?_ NB496_509.out _; (with_reducible repeat (first | refine blk_drewN ?_ _ | refine blk_drew ?_ | refine blk_alloc ?_ _)); refine blk_far ?_ NB496_509.out _; (with_reducible repeat (first | refine blk_drewN ?_ _ | refine blk_drew ?_ | refine blk_alloc ?_ _)); exact BK496.out))⟩; replace BK509 : Aside0 (w145.heap[gb509]? = some (.cells #[.int .i64 t497, .int .i64 t498, .slice Ao143 t499.length co143, .slice Ao144 t502.length co144] 27 (0, 0))) := ⟨(by rw [hw]; exact (by (with_reducible repeat (first | refine blk_drewN ?_ _ | refine blk_drew ?_ | refine blk_alloc ?_ _)); refine blk_put (cs := #[.int .i64 t497, .int .i64 t498, .slice Ao143 t499.length co143, .slice none 0 0]) ?_ 3 _ rfl; (with_reducible repeat (first | refine blk_drewN ?_ _ | refine blk_drew ?_ | refine blk_alloc ?_ _)); refine blk_put (cs := #[.int .i64 t497, .int .i64 t498, .slice none 0 0, .slice none 0 0]) ?_ 2 _ rfl; (with_reducible repeat (first | refine blk_drewN ?_ _ | refine blk_drew ?_ | refine blk_alloc ?_ _)); refine blk_put (cs := #[.int .i64 t497, .int .i64 0, .slice none 0 0, .slice none 0 0]) ?_ 1 _ rfl; (with_reducible repeat (first | refine blk_drewN ?_ _ | refine blk_drew ?_ | refine blk_alloc ?_ _)); refine blk_put (cs := #[.int .i64 0, .int .i64 0, .slice none 0 0, .slice none 0 0]) ?_ 0 _ rfl; (with_reducible repeat (first | refine blk_drewN ?_ _ | refine blk_drew ?_ | refine blk_alloc ?_ _)); exact BK509.out))⟩; replace BK510 : Aside0 (w145.heap[gb510]? = some (.cells #[.bool false, .int .i64 0, .int .i64 0, .int .i64 0] 32 (0, 0))) := ⟨(by rw [hw]; exact (by (with_reducible repeat (first | refine blk_drewN ?_ _ | refine blk_drew ?_ | refine blk_alloc ?_ _)); refine blk_far ?_ NB510_509.out _; (with_reducible repeat (first | refine blk_drewN ?_ _ | refine blk_drew ?_ | refine blk_alloc ?_ _)); refine blk_far ?_ NB510_509.out _; (with_reducible repeat (first | refine blk_drewN ?_ _ | refine blk_drew ?_ | refine blk_alloc ?_ _)); refine blk_far ?_ NB510_509.out _; (with_reducible repeat (first | refine blk_drewN ?_ _ | refine blk_drew ?_ | refine blk_alloc ?_ _)); refine blk_far ?_ NB510_509.out _; (with_reducible repeat (first | refine blk_drewN ?_ _ | refine blk_drew ?_ | refine blk_alloc ?_ _)); exact BK510.out))⟩; replace HB : Aside0 (Below w.heap.size w w145) := ⟨(by rw [hw]; exact (bl HB))⟩; clear hw; have hnb146 := NB510_460.out; have hnc146 := NB460_510.out; have hnb147 := NB510_461.out; have hnc147 := NB461_510.out; have hnb148 := NB510_462.out; have hnc148 := NB462_510.out; have hnb149 := NB510_481.out; have hnc149 := NB481_510.out; have hnb150 := NB510_482.out; have hnc150 := NB482_510.out; have hnb151 := NB510_495.out; have hnc151 := NB495_510.out; have hnb152 := NB510_496.out; have hnc152 := NB496_510.out; obtain ⟨hcz153_0, hcz153_1, hcz153_2, hcz153_3⟩ := ce4 BK510; obtain ⟨hfz153_0, hfz153_1, hfz153_2, hfz153_3⟩ := fr4 BK510) | ((with_reducible refine gate_store (t := 32) (p := 12) rfl ?_); refine store_event (t := 32) (p := 12) (v := ?vo_w154) (w1 := ((((w145.setCell ⟨gb510, 0, none⟩ (.bool t505)).setCell ⟨gb510, 1, none⟩ (.int .i64 t506)).setCell ⟨gb510, 2, none⟩ (.int .i64 t507)).setCell ⟨gb510, 3, none⟩ (.int .i64 t508))) ?hg ?ho ?hn ?hr ?_; (case ho => rfl); (case hg => rfl); (case hn => rfl); (case hr => first | (go_simp; done) | (go_simp; rfl)); intro w154 hw; replace HO473 : Aside0 (Kd.V (Kd.int .i64) 3 w154 w.heap.size (fun k_ => k_ ≠ gb460 ∧ k_ ≠ gb461 ∧ k_ ≠ gb462 ∧ k_ ≠ gb481 ∧ k_ ≠ gb482 ∧ k_ ≠ gb495 ∧ k_ ≠ gb496 ∧ k_ ≠ gb509 ∧ k_ ≠ gb510) (.slice Ao97 t471.length co97) t471) := ⟨(by rw [hw]; exact (by (with_reducible repeat (first | apply Kd.V_alloc | apply Kd.V_drewN | apply Kd.V_drew)); exact Kd.V_mono (Kd.V_far (p := ⟨gb510, 3, none⟩) (Kd.V_far (p := ⟨gb510, 2, none⟩) (Kd.V_far (p := ⟨gb510, 1, none⟩) (Kd.V_far (p := ⟨gb510, 0, none⟩) (Kd.V_mono HO473.out (fun k_ hk => (⟨hk, hk.2.2.2.2.2.2.2.2⟩ : _ ∧ k_ ≠ gb510))) (fun _ hk => hk.2) (.bool t505)) (fun _ hk => hk.2) (.int .i64 t506)) (fun _ hk => hk.2) (.int .i64 t507)) (fun _ hk => hk.2) (.int .i64 t508)) (fun _ hk => ⟨hk.1.1, ⟨hk.1.2.1, ⟨hk.1.2.2.1, ⟨hk.1.2.2.2.1, ⟨hk.1.2.2.2.2.1, ⟨hk.1.2.2.2.2.2.1, ⟨hk.1.2.2.2.2.2.2.1, ⟨hk.1.2.2.2.2.2.2.2.1, hk.1.2.2.2.2.2.2.2.2⟩⟩⟩⟩⟩⟩⟩⟩)))⟩; replace HO476 : Aside0 (Kd.V k57 57 w154 w.heap.size (fun k_ => k_ ≠ gb460 ∧ k_ ≠ gb461 ∧ k_ ≠ gb462 ∧ k_ ≠ gb481 ∧ k_ ≠ gb482 ∧ k_ ≠ gb495 ∧ k_ ≠ gb496 ∧ k_ ≠ gb509 ∧ k_ ≠ gb510) (.slice Ao98 t474.length co98) t474) := ⟨(by rw [hw]; exact (by (with_reducible repeat (first | apply Kd.V_alloc | apply Kd.V_drewN | apply Kd.V_drew)); exact Kd.V_mono (Kd.V_far (p := ⟨gb510, 3, none⟩) (Kd.V_far (p := ⟨gb510, 2, none⟩) (Kd.V_far (p := ⟨gb510, 1, none⟩) (Kd.V_far (p := ⟨gb510, 0, none⟩) (Kd.V_mono HO476.out (fun k_ hk => (⟨hk, hk.2.2.2.2.2.2.2.2⟩ : _ ∧ k_ ≠ gb510))) (fun _ hk => hk.2) (.bool t505)) (fun _ hk => hk.2) (.int .i64 t506)) (fun _ hk => hk.2) (.int .i64 t507)) (fun _ hk => hk.2) (.int .i64 t508)) (fun _ hk => ⟨hk.1.1, ⟨hk.1.2.1, ⟨hk.1.2.2.1, ⟨hk.1.2.2.2.1, ⟨hk.1.2.2.2.2.1, ⟨hk.1.2.2.2.2.2.1, ⟨hk.1.2.2.2.2.2.2.1, ⟨hk.1.2.2.2.2.2.2.2.1, hk.1.2.2.2.2.2.2.2.2⟩⟩⟩⟩⟩⟩⟩⟩)))⟩; replace HO487 : Aside0 (Kd.V (Kd.int .i64) 3 w154 w.heap.size (fun k_ => k_ ≠ gb460 ∧ k_ ≠ gb461 ∧ k_ ≠ gb462 ∧ k_ ≠ gb481 ∧ k_ ≠ gb482 ∧ k_ ≠ gb495 ∧ k_ ≠ gb496 ∧ k_ ≠ gb509 ∧ k_ ≠ gb510) (.slice Ao118 t485.length co118) t485) := ⟨(by rw [hw]; exact (by (with_reducible repeat (first | apply Kd.V_alloc | apply Kd.V_drewN | apply Kd.V_drew)); exact Kd.V_mono (Kd.V_far (p := ⟨gb510, 3, none⟩) (Kd.V_far (p := ⟨gb510, 2, none⟩) (Kd.V_far (p := ⟨gb510, 1, none⟩) (Kd.V_far (p := ⟨gb510, 0, none⟩) (Kd.V_mono HO487.out (fun k_ hk => (⟨hk, hk.2.2.2.2.2.2.2.2⟩ : _ ∧ k_ ≠ gb510))) (fun _ hk => hk.2) (.bool t505)) (fun _ hk => hk.2) (.int .i64 t506)) (fun _ hk => hk.2) (.int .i64 t507)) (fun _ hk => hk.2) (.int .i64 t508)) (fun _ hk => ⟨hk.1.1, ⟨hk.1.2.1, ⟨hk.1.2.2.1, ⟨hk.1.2.2.2.1, ⟨hk.1.2.2.2.2.1, ⟨hk.1.2.2.2.2.2.1, ⟨hk.1.2.2.2.2.2.2.1, ⟨hk.1.2.2.2.2.2.2.2.1, hk.1.2.2.2.2.2.2.2.2⟩⟩⟩⟩⟩⟩⟩⟩)))⟩; replace HO490 : Aside0 (Kd.V k57 57 w154 w.heap.size (fun k_ => k_ ≠ gb460 ∧ k_ ≠ gb461 ∧ k_ ≠ gb462 ∧ k_ ≠ gb481 ∧ k_ ≠ gb482 ∧ k_ ≠ gb495 ∧ k_ ≠ gb496 ∧ k_ ≠ gb509 ∧ k_ ≠ gb510) (.slice Ao119 t488.length co119) t488) := ⟨(by rw [hw]; exact (by (with_reducible repeat (first | apply Kd.V_alloc | apply Kd.V_drewN | apply Kd.V_drew)); exact Kd.V_mono (Kd.V_far (p := ⟨gb510, 3, none⟩) (Kd.V_far (p := ⟨gb510, 2, none⟩) (Kd.V_far (p := ⟨gb510, 1, none⟩) (Kd.V_far (p := ⟨gb510, 0, none⟩) (Kd.V_mono HO490.out (fun k_ hk => (⟨hk, hk.2.2.2.2.2.2.2.2⟩ : _ ∧ k_ ≠ gb510))) (fun _ hk => hk.2) (.bool t505)) (fun _ hk => hk.2) (.int .i64 t506)) (fun _ hk => hk.2) (.int .i64 t507)) (fun _ hk => hk.2) (.int .i64 t508)) (fun _ hk => ⟨hk.1.1, ⟨hk.1.2.1, ⟨hk.1.2.2.1, ⟨hk.1.2.2.2.1, ⟨hk.1.2.2.2.2.1, ⟨hk.1.2.2.2.2.2.1, ⟨hk.1.2.2.2.2.2.2.1, ⟨hk.1.2.2.2.2.2.2.2.1, hk.1.2.2.2.2.2.2.2.2⟩⟩⟩⟩⟩⟩⟩⟩)))⟩; replace HO501 : Aside0 (Kd.V (Kd.int .i64) 3 w154 w.heap.size (fun k_ => k_ ≠ gb460 ∧ k_ ≠ gb461 ∧ k_ ≠ gb462 ∧ k_ ≠ gb481 ∧ k_ ≠ gb482 ∧ k_ ≠ gb495 ∧ k_ ≠ gb496 ∧ k_ ≠ gb509 ∧ k_ ≠ gb510) (.slice Ao143 t499.length co143) t499) := ⟨(by rw [hw]; exact (by (with_reducible repeat (first | apply Kd.V_alloc | apply Kd.V_drewN | apply Kd.V_drew)); exact Kd.V_mono (Kd.V_far (p := ⟨gb510, 3, none⟩) (Kd.V_far (p := ⟨gb510, 2, none⟩) (Kd.V_far (p := ⟨gb510, 1, none⟩) (Kd.V_far (p := ⟨gb510, 0, none⟩) (Kd.V_mono HO501.out (fun k_ hk => (⟨hk, hk.2.2.2.2.2.2.2.2⟩ : _ ∧ k_ ≠ gb510))) (fun _ hk => hk.2) (.bool t505)) (fun _ hk => hk.2) (.int .i64 t506)) (fun _ hk => hk.2) (.int .i64 t507)) (fun _ hk => hk.2) (.int .i64 t508)) (fun _ hk => ⟨hk.1.1, ⟨hk.1.2.1, ⟨hk.1.2.2.1, ⟨hk.1.2.2.2.1, ⟨hk.1.2.2.2.2.1, ⟨hk.1.2.2.2.2.2.1, ⟨hk.1.2.2.2.2.2.2.1, ⟨hk.1.2.2.2.2.2.2.2.1, hk.1.2.2.2.2.2.2.2.2⟩⟩⟩⟩⟩⟩⟩⟩)))⟩; replace HO504 : Aside0 (Kd.V k57 57 w154 w.heap.size (fun k_ => k_ ≠ gb460 ∧ k_ ≠ gb461 ∧ k_ ≠ gb462 ∧ k_ ≠ gb481 ∧ k_ ≠ gb482 ∧ k_ ≠ gb495 ∧ k_ ≠ gb496 ∧ k_ ≠ gb509 ∧ k_ ≠ gb510) (.slice Ao144 t502.length co144) t502) := ⟨(by rw [hw]; exact (by (with_reducible repeat (first | apply Kd.V_alloc | apply Kd.V_drewN | apply Kd.V_drew)); exact Kd.V_mono (Kd.V_far (p := ⟨gb510, 3, none⟩) (Kd.V_far (p := ⟨gb510, 2, none⟩) (Kd.V_far (p := ⟨gb510, 1, none⟩) (Kd.V_far (p := ⟨gb510, 0, none⟩) (Kd.V_mono HO504.out (fun k_ hk => (⟨hk, hk.2.2.2.2.2.2.2.2⟩ : _ ∧ k_ ≠ gb510))) (fun _ hk => hk.2) (.bool t505)) (fun _ hk => hk.2) (.int .i64 t506)) (fun _ hk => hk.2) (.int .i64 t507)) (fun _ hk => hk.2) (.int .i64 t508)) (fun _ hk => ⟨hk.1.1, ⟨hk.1.2.1, ⟨hk.1.2.2.1, ⟨hk.1.2.2.2.1, ⟨hk.1.2.2.2.2.1, ⟨hk.1.2.2.2.2.2.1, ⟨hk.1.2.2.2.2.2.2.1, ⟨hk.1.2.2.2.2.2.2.2.1, hk.1.2.2.2.2.2.2.2.2⟩⟩⟩⟩⟩⟩⟩⟩)))⟩; replace BK460 : Aside0 (w154.heap[gb460]? = some (.cells #[.int .i64 a0_0, .int .i64 a0_1, .int .i64 a0_2, .int .i64 a0_3] 23 (0, 0))) := ⟨(by rw [hw]; exact (by (with_reducible repeat (first | refine blk_drewN ?_ _ | refine blk_drew ?_ | refine blk_alloc ?_ _)); refine blk_far ?_ NB460_510.out _; (with_reducible repeat (first | refine blk_drewN ?_ _ | refine blk_drew ?_ | refine blk_alloc ?_ _)); refine blk_far ?_ NB460_510.out _; (with_reducible repeat (first | refine blk_drewN ?_ _ | refine blk_drew ?_ | refine blk_alloc ?_ _)); refine blk_far ?_ NB460_510.out _; (with_reducible repeat (first | refine blk_drewN ?_ _ | refine blk_drew ?_ | refine blk_alloc ?_ _)); refine blk_far ?_ NB460_510.out _; (with_reducible repeat (first | refine blk_drewN ?_ _ | refine blk_drew ?_ | refine blk_alloc ?_ _)); exact BK460.out))⟩; replace BK461 : Aside0 (w154.heap[gb461]? = some (.cells #[.int .i64 a1_0, .int .i64 a1_1, .slice A1_2 l1_2.length c1_2, .slice A1_3 l1_3.length c1_3] 27 (0, 0))) := ⟨(by rw [hw]; exact (by (with_reducible repeat (first | refine blk_drewN ?_ _ | refine blk_drew ?_ | refine blk_alloc ?_ _)); refine blk_far ?_ NB461_510.out _; (with_reducible repeat (first | refine blk_drewN ?_ _ | refine blk_drew ?_ | refine blk_alloc ?_ _)); refine blk_far ?_ NB461_510.out _; (with_reducible repeat (first | refine blk_drewN ?_ _ | refine blk_drew ?_ | refine blk_alloc ?_ _)); refine blk_far ?_ NB461_510.out _; (with_reducible repeat (first | refine blk_drewN ?_ _ | refine blk_drew ?_ | refine blk_alloc ?_ _)); refine blk_far ?_ NB461_510.out _; (with_reducible repeat (first | refine blk_drewN ?_ _ | refine blk_drew ?_ | refine blk_alloc ?_ _)); exact BK461.out))⟩; replace BK462 : Aside0 (w154.heap[gb462]? = some (.cells #[.int .i64 a2_0, .int .i64 a2_1, .int .i64 a2_2] 47 (0, 0))) := ⟨(by rw [hw]; exact (by (with_reducible repeat (first | refine blk_drewN ?_ _ | refine blk_drew ?_ | refine blk_alloc ?_ _)); refine blk_far ?_ NB462_510.out _; (with_reducible repeat (first | refine blk_drewN ?_ _ | refine blk_drew ?_ | refine blk_alloc ?_ _)); refine blk_far ?_ NB462_510.out _; (with_reducible repeat (first | refine blk_drewN ?_ _ | refine blk_drew ?_ | refine blk_alloc ?_ _)); refine blk_far ?_ NB462_510.out _; (with_reducible repeat (first | refine blk_drewN ?_ _ | refine blk_drew ?_ | refine blk_alloc ?_ _)); refine blk_far ?_ NB462_510.out _; (with_reducible repeat (first | refine blk_drewN ?_ _ | refine blk_drew ?_ | refine blk_alloc ?_ _)); exact BK462.out))⟩; replace BK481 : Aside0 (w154.heap[gb481]? = some (.cells #[.int .i64 t469, .int .i64 t470, .slice Ao97 t471.length co97, .slice Ao98 t474.length co98] 27 (0, 0))) := ⟨(by rw [hw]; exact (by (with_reducible repeat (first | refine blk_drewN ?_ _ | refine blk_drew ?_ | refine blk_alloc ?_ _)); refine blk_far ?_ NB481_510.out _; (with_reducible repeat (first | refine blk_drewN ?_ _ | refine blk_drew ?_ | refine blk_alloc ?_ _)); refine blk_far ?_ NB481_510.out _; (with_reducible repeat (first | refine blk_drewN ?_ _ | refine blk_drew ?_ | refine blk_alloc ?_ _)); refine blk_far ?_ NB481_510.out _; (with_reducible repeat (first | refine blk_drewN ?_ _ | refine blk_drew ?_ | refine blk_alloc ?_ _)); refine blk_far ?_ NB481_510.out _; (with_reducible repeat (first | refine blk_drewN ?_ _ | refine blk_drew ?_ | refine blk_alloc ?_ _)); exact BK481.out))⟩; replace BK482 : Aside0 (w154.heap[gb482]? = some (.cells #[.bool t477, .int .i64 t478, .int .i64 t479, .int .i64 t480] 32 (0, 0))) := ⟨(by rw [hw]; exact (by (with_reducible repeat (first | refine blk_drewN ?_ _ | refine blk_drew ?_ | refine blk_alloc ?_ _)); refine blk_far ?_ NB482_510.out _; (with_reducible repeat (first | refine blk_drewN ?_ _ | refine blk_drew ?_ | refine blk_alloc ?_ _)); refine blk_far ?_ NB482_510.out _; (with_reducible repeat (first | refine blk_drewN ?_ _ | refine blk_drew ?_ | refine blk_alloc ?_ _)); refine blk_far ?_ NB482_510.out _; (with_reducible repeat (first | refine blk_drewN ?_ _ | refine blk_drew ?_ | refine blk_alloc ?_ _)); refine blk_far ?_ NB482_510.out _; (with_reducible repeat (first | refine blk_drewN ?_ _ | refine blk_drew ?_ | refine blk_alloc ?_ _)); exact BK482.out))⟩; replace BK495 : Aside0 (w154.heap[gb495]? = some (.cells #[.int .i64 t483, .int .i64 t484, .slice Ao118 t485.length co118, .slice Ao119 t488.length co119] 27 (0, 0))) := ⟨(by rw [hw]; exact (by (with_reducible repeat (first | refine blk_drewN ?_ _ | refine blk_drew ?_ | refine blk_alloc ?_ _)); refine blk_far ?_ NB495_510.out _; (with_reducible repeat (first | refine blk_drewN ?_ _ | refine blk_drew ?_ | refine blk_alloc ?_ _)); refine blk_far ?_ NB495_510.out _; (with_reducible repeat (first | refine blk_drewN ?_ _ | refine blk_drew ?_ | refine blk_alloc ?_ _)); refine blk_far ?_ NB495_510.out _; (with_reducible repeat (first | refine blk_drewN ?_ _ | refine blk_drew ?_ | refine blk_alloc ?_ _)); refine blk_far ?_ NB495_510.out _; (with_reducible repeat (first | refine blk_drewN ?_ _ | refine blk_drew ?_ | refine blk_alloc ?_ _)); exact BK495.out))⟩; replace BK496 : Aside0 (w154.heap[gb496]? = some (.cells #[.bool t491, .int .i64 t492, .int .i64 t493, .int .i64 t494] 32 (0, 0))) := ⟨(by rw [hw]; exact (by (with_reducible repeat (first | refine blk_drewN ?_ _ | refine blk_drew ?_ | refine blk_alloc ?_ _)); refine blk_far ?_ NB496_510.out _; (with_reducible repeat (first | refine blk_drewN ?_ _ | refine blk_drew ?_ | refine blk_alloc ?_ _)); refine blk_far ?_ NB496_510.out _; (with_reducible repeat (first | refine blk_drewN ?_ _ | refine blk_drew ?_ | refine blk_alloc ?_ _)); refine blk_far ?_ NB496_510.out _; (with_reducible repeat (first | refine blk_drewN ?_ _ | refine blk_drew ?_ | refine blk_alloc ?_ _)); refine blk_far ?_ NB496_510.out _; (with_reducible repeat (first | refine blk_drewN ?_ _ | refine blk_drew ?_ | refine blk_alloc ?_ _)); exact BK496.out))⟩; replace BK509 : Aside0 (w154.heap[gb509]? = some (.cells #[.int .i64 t497, .int .i64 t498, .slice Ao143 t499.length co143, .slice Ao144 t502.length co144] 27 (0, 0))) := ⟨(by rw [hw]; exact (by (with_reducible repeat (first | refine blk_drewN ?_ _ | refine blk_drew ?_ | refine blk_alloc ?_ _)); refine blk_far ?_ NB509_510.out _; (with_reducible repeat (first | refine blk_drewN ?_ _ | refine blk_drew ?_ | refine blk_alloc ?_ _)); refine blk_far ?_ NB509_510.out _; (with_reducible repeat (first | refine blk_drewN ?_ _ | refine blk_drew ?_ | refine blk_alloc ?_ _)); refine blk_far ?_ NB509_510.out _; (with_reducible repeat (first | refine blk_drewN ?_ _ | refine blk_drew ?_ | refine blk_alloc ?_ _)); refine blk_far ?_ NB509_510.out _; (with_reducible repeat (first | refine blk_drewN ?_ _ | refine blk_drew ?_ | refine blk_alloc ?_ _)); exact BK509.out))⟩; replace BK510 : Aside0 (w154.heap[gb510]? = some (.cells #[.bool t505, .int .i64 t506, .int .i64 t507, .int .i64 t508] 32 (0, 0))) := ⟨(by rw [hw]; exact (by (with_reducible repeat (first | refine blk_drewN ?_ _ | refine blk_drew ?_ | refine blk_alloc ?_ _)); refine blk_put (cs := #[.bool t505, .int .i64 t506, .int .i64 t507, .int .i64 0]) ?_ 3 _ rfl; (with_reducible repeat (first | refine blk_drewN ?_ _ | refine blk_drew ?_ | refine blk_alloc ?_ _)); refine blk_put (cs := #[.bool t505, .int .i64 t506, .int .i64 0, .int .i64 0]) ?_ 2 _ rfl; (with_reducible repeat (first | refine blk_drewN ?_ _ | refine blk_drew ?_ | refine blk_alloc ?_ _)); refine blk_put (cs := #[.bool t505, .int .i64 0, .int .i64 0, .int .i64 0]) ?_ 1 _ rfl; (with_reducible repeat (first | refine blk_drewN ?_ _ | refine blk_drew ?_ | refine blk_alloc ?_ _)); refine blk_put (cs := #[.bool false, .int .i64 0, .int .i64 0, .int .i64 0]) ?_ 0 _ rfl; (with_reducible repeat (first | refine blk_drewN ?_ _ | refine blk_drew ?_ | refine blk_alloc ?_ _)); exact BK510.out))⟩; replace HB : Aside0 (Below w.heap.size w w154) := ⟨(by rw [hw]; exact (bl HB))⟩; clear hw))
        (try simp only [Act.put, List.setIfInBounds_toArray, List.set_cons_zero, List.set_cons_succ])
        go_cut [13] (fun v13 wc => ∃ (kq : Nat) (x13_81 : Bool), v13 = .bool x13_81 ∧ Aside0 (sandglasslaw10_GcraParts.j1 kq x13_81 t483 t484 t485 t488 t491 t492 t493 t494 t497 t498 t499 t502 t505 t506 t507 t508 = some r) ∧ Aside0 (kq ≤ kj3) ∧ Aside0 (Kd.V (Kd.int .i64) 3 wc w.heap.size (fun k_ => k_ ≠ gb460 ∧ k_ ≠ gb461 ∧ k_ ≠ gb462 ∧ k_ ≠ gb481 ∧ k_ ≠ gb482 ∧ k_ ≠ gb495 ∧ k_ ≠ gb496 ∧ k_ ≠ gb509 ∧ k_ ≠ gb510) (.slice Ao97 t471.length co97) t471) ∧ Aside0 (Kd.V k57 57 wc w.heap.size (fun k_ => k_ ≠ gb460 ∧ k_ ≠ gb461 ∧ k_ ≠ gb462 ∧ k_ ≠ gb481 ∧ k_ ≠ gb482 ∧ k_ ≠ gb495 ∧ k_ ≠ gb496 ∧ k_ ≠ gb509 ∧ k_ ≠ gb510) (.slice Ao98 t474.length co98) t474) ∧ Aside0 (Kd.V (Kd.int .i64) 3 wc w.heap.size (fun k_ => k_ ≠ gb460 ∧ k_ ≠ gb461 ∧ k_ ≠ gb462 ∧ k_ ≠ gb481 ∧ k_ ≠ gb482 ∧ k_ ≠ gb495 ∧ k_ ≠ gb496 ∧ k_ ≠ gb509 ∧ k_ ≠ gb510) (.slice Ao118 t485.length co118) t485) ∧ Aside0 (Kd.V k57 57 wc w.heap.size (fun k_ => k_ ≠ gb460 ∧ k_ ≠ gb461 ∧ k_ ≠ gb462 ∧ k_ ≠ gb481 ∧ k_ ≠ gb482 ∧ k_ ≠ gb495 ∧ k_ ≠ gb496 ∧ k_ ≠ gb509 ∧ k_ ≠ gb510) (.slice Ao119 t488.length co119) t488) ∧ Aside0 (Kd.V (Kd.int .i64) 3 wc w.heap.size (fun k_ => k_ ≠ gb460 ∧ k_ ≠ gb461 ∧ k_ ≠ gb462 ∧ k_ ≠ gb481 ∧ k_ ≠ gb482 ∧ k_ ≠ gb495 ∧ k_ ≠ gb496 ∧ k_ ≠ gb509 ∧ k_ ≠ gb510) (.slice Ao143 t499.length co143) t499) ∧ Aside0 (Kd.V k57 57 wc w.heap.size (fun k_ => k_ ≠ gb460 ∧ k_ ≠ gb461 ∧ k_ ≠ gb462 ∧ k_ ≠ gb481 ∧ k_ ≠ gb482 ∧ k_ ≠ gb495 ∧ k_ ≠ gb496 ∧ k_ ≠ gb509 ∧ k_ ≠ gb510) (.slice Ao144 t502.length co144) t502) ∧ Aside0 (wc.heap[gb460]? = some (.cells #[.int .i64 a0_0, .int .i64 a0_1, .int .i64 a0_2, .int .i64 a0_3] 23 (0, 0))) ∧ Aside0 (wc.heap[gb461]? = some (.cells #[.int .i64 a1_0, .int .i64 a1_1, (.slice A1_2 l1_2.length c1_2), (.slice A1_3 l1_3.length c1_3)] 27 (0, 0))) ∧ Aside0 (wc.heap[gb462]? = some (.cells #[.int .i64 a2_0, .int .i64 a2_1, .int .i64 a2_2] 47 (0, 0))) ∧ Aside0 (wc.heap[gb481]? = some (.cells #[.int .i64 t469, .int .i64 t470, (.slice Ao97 t471.length co97), (.slice Ao98 t474.length co98)] 27 (0, 0))) ∧ Aside0 (wc.heap[gb482]? = some (.cells #[.bool t477, .int .i64 t478, .int .i64 t479, .int .i64 t480] 32 (0, 0))) ∧ Aside0 (wc.heap[gb495]? = some (.cells #[.int .i64 t483, .int .i64 t484, (.slice Ao118 t485.length co118), (.slice Ao119 t488.length co119)] 27 (0, 0))) ∧ Aside0 (wc.heap[gb496]? = some (.cells #[.bool t491, .int .i64 t492, .int .i64 t493, .int .i64 t494] 32 (0, 0))) ∧ Aside0 (wc.heap[gb509]? = some (.cells #[.int .i64 t497, .int .i64 t498, (.slice Ao143 t499.length co143), (.slice Ao144 t502.length co144)] 27 (0, 0))) ∧ Aside0 (wc.heap[gb510]? = some (.cells #[.bool t505, .int .i64 t506, .int .i64 t507, .int .i64 t508] 32 (0, 0))) ∧ Aside0 (Below w.heap.size w wc))
        case first =>
          have H := HC82.out
          clear HC82
          by_cases c155 : t477 = true
          · subst c155
            rw [if_pos rfl] at H
            have H' := Aside0.mk H
            clear H
            have hnb156 := NB482_460.out
            have hnc156 := NB460_482.out
            have hnb157 := NB482_461.out
            have hnc157 := NB461_482.out
            have hnb158 := NB482_462.out
            have hnc158 := NB462_482.out
            have hnb159 := NB482_481.out
            have hnc159 := NB481_482.out
            have hnb160 := NB482_495.out
            have hnc160 := NB495_482.out
            have hnb161 := NB482_496.out
            have hnc161 := NB496_482.out
            have hnb162 := NB482_509.out
            have hnc162 := NB509_482.out
            have hnb163 := NB482_510.out
            have hnc163 := NB510_482.out
            obtain ⟨hcz164_0, hcz164_1, hcz164_2, hcz164_3⟩ := ce4 BK482
            obtain ⟨hfz164_0, hfz164_1, hfz164_2, hfz164_3⟩ := fr4 BK482
            have hnb165 := NB496_460.out
            have hnc165 := NB460_496.out
            have hnb166 := NB496_461.out
            have hnc166 := NB461_496.out
            have hnb167 := NB496_462.out
            have hnc167 := NB462_496.out
            have hnb168 := NB496_481.out
            have hnc168 := NB481_496.out
            have hnb169 := NB496_495.out
            have hnc169 := NB495_496.out
            have hnb170 := NB496_509.out
            have hnc170 := NB509_496.out
            have hnb171 := NB496_510.out
            have hnc171 := NB510_496.out
            obtain ⟨hcz172_0, hcz172_1, hcz172_2, hcz172_3⟩ := ce4 BK496
            obtain ⟨hfz172_0, hfz172_1, hfz172_2, hfz172_3⟩ := fr4 BK496
            go_wp2
            go_meet
            case rel => exact ⟨_, (t491), (by first | (with_reducible rfl) | rfl | (simp; done) | (simp [*]; done)), H', ⟨by have := HJ3.out; first | omega | exact Nat.le_refl _⟩, ⟨by (with_reducible repeat (first | apply Kd.V_alloc | apply Kd.V_drewN | apply Kd.V_drew)); exact HO473.out⟩, ⟨by (with_reducible repeat (first | apply Kd.V_alloc | apply Kd.V_drewN | apply Kd.V_drew)); exact HO476.out⟩, ⟨by (with_reducible repeat (first | apply Kd.V_alloc | apply Kd.V_drewN | apply Kd.V_drew)); exact HO487.out⟩, ⟨by (with_reducible repeat (first | apply Kd.V_alloc | apply Kd.V_drewN | apply Kd.V_drew)); exact HO490.out⟩, ⟨by (with_reducible repeat (first | apply Kd.V_alloc | apply Kd.V_drewN | apply Kd.V_drew)); exact HO501.out⟩, ⟨by (with_reducible repeat (first | apply Kd.V_alloc | apply Kd.V_drewN | apply Kd.V_drew)); exact HO504.out⟩, ⟨bo BK460⟩, ⟨bo BK461⟩, ⟨bo BK462⟩, ⟨bo BK481⟩, ⟨bo BK482⟩, ⟨bo BK495⟩, ⟨bo BK496⟩, ⟨bo BK509⟩, ⟨bo BK510⟩, ⟨bl HB⟩⟩
          · replace c155 := Bool.eq_false_iff.mpr c155
            subst c155
            rw [if_neg (show ¬ (false = true) by decide)] at H
            have H' := Aside0.mk H
            clear H
            have hnb173 := NB482_460.out
            have hnc173 := NB460_482.out
            have hnb174 := NB482_461.out
            have hnc174 := NB461_482.out
            have hnb175 := NB482_462.out
            have hnc175 := NB462_482.out
            have hnb176 := NB482_481.out
            have hnc176 := NB481_482.out
            have hnb177 := NB482_495.out
            have hnc177 := NB495_482.out
            have hnb178 := NB482_496.out
            have hnc178 := NB496_482.out
            have hnb179 := NB482_509.out
            have hnc179 := NB509_482.out
            have hnb180 := NB482_510.out
            have hnc180 := NB510_482.out
            obtain ⟨hcz181_0, hcz181_1, hcz181_2, hcz181_3⟩ := ce4 BK482
            obtain ⟨hfz181_0, hfz181_1, hfz181_2, hfz181_3⟩ := fr4 BK482
            go_wp2
            go_meet
            case rel => exact ⟨_, (false), (by first | (with_reducible rfl) | rfl | (simp; done) | (simp [*]; done)), H', ⟨by have := HJ3.out; first | omega | exact Nat.le_refl _⟩, ⟨by (with_reducible repeat (first | apply Kd.V_alloc | apply Kd.V_drewN | apply Kd.V_drew)); exact HO473.out⟩, ⟨by (with_reducible repeat (first | apply Kd.V_alloc | apply Kd.V_drewN | apply Kd.V_drew)); exact HO476.out⟩, ⟨by (with_reducible repeat (first | apply Kd.V_alloc | apply Kd.V_drewN | apply Kd.V_drew)); exact HO487.out⟩, ⟨by (with_reducible repeat (first | apply Kd.V_alloc | apply Kd.V_drewN | apply Kd.V_drew)); exact HO490.out⟩, ⟨by (with_reducible repeat (first | apply Kd.V_alloc | apply Kd.V_drewN | apply Kd.V_drew)); exact HO501.out⟩, ⟨by (with_reducible repeat (first | apply Kd.V_alloc | apply Kd.V_drewN | apply Kd.V_drew)); exact HO504.out⟩, ⟨bo BK460⟩, ⟨bo BK461⟩, ⟨bo BK462⟩, ⟨bo BK481⟩, ⟨bo BK482⟩, ⟨bo BK495⟩, ⟨bo BK496⟩, ⟨bo BK509⟩, ⟨bo BK510⟩, ⟨bl HB⟩⟩
        case rest =>
          clear HC82
          try clear c1
          try clear c2
          try clear p2
          try clear c3
          try clear c4
          try clear c5
          try clear c6
          try clear p6
          try clear c7
          try clear c8
          try clear c9
          try clear c10
          try clear c11
          try clear c12
          try clear c13
          try clear c14
          try clear c15
          try clear c16
          try clear c17
          try clear c18
          try clear c18b0
          try clear c19
          try clear c20
          try clear c23
          try clear c28
          try clear c29
          try clear c32
          try clear c37
          try clear c38
          try clear c41
          try clear c46
          try clear c47
          try clear c50
          try clear c55
          try clear c56
          try clear c59
          try clear c64
          try clear p64
          try clear c65
          try clear c68
          try clear c72
          try clear c73
          try clear c76
          try clear c83
          try clear c84
          try clear c86
          try clear c92
          try clear c93
          try clear c94
          try clear c95
          try clear c100
          try clear c101
          try clear c102
          try clear c111
          try clear c112
          try clear c113
          try clear c114
          try clear c115
          try clear c116
          try clear c121
          try clear c122
          try clear c123
          try clear c124
          try clear c125
          try clear c134
          try clear c135
          try clear c136
          try clear c137
          try clear c138
          try clear c139
          try clear c140
          try clear c141
          try clear c146
          try clear c147
          try clear c148
          try clear c149
          try clear c150
          try clear c151
          try clear c152
          try clear c155
          try clear c156
          try clear c157
          try clear c158
          try clear c159
          try clear c160
          try clear c161
          try clear c162
          try clear c163
          try clear c165
          try clear c166
          try clear c167
          try clear c168
          try clear c169
          try clear c170
          try clear c171
          try clear c173
          try clear c174
          try clear c175
          try clear c176
          try clear c177
          try clear c178
          try clear c179
          try clear c180
          try clear hcz103_0
          try clear hcz103_1
          try clear hcz103_2
          try clear hcz103_3
          try clear hcz105_0
          try clear hcz105_1
          try clear hcz105_2
          try clear hcz105_3
          try clear hcz106_0
          try clear hcz106_1
          try clear hcz106_2
          try clear hcz106_3
          try clear hcz107_0
          try clear hcz107_1
          try clear hcz107_2
          try clear hcz117_0
          try clear hcz117_1
          try clear hcz117_2
          try clear hcz117_3
          try clear hcz126_0
          try clear hcz126_1
          try clear hcz126_2
          try clear hcz126_3
          try clear hcz128_0
          try clear hcz128_1
          try clear hcz128_2
          try clear hcz128_3
          try clear hcz129_0
          try clear hcz129_1
          try clear hcz129_2
          try clear hcz129_3
          try clear hcz130_0
          try clear hcz130_1
          try clear hcz130_2
          try clear hcz142_0
          try clear hcz142_1
          try clear hcz142_2
          try clear hcz142_3
          try clear hcz153_0
          try clear hcz153_1
          try clear hcz153_2
          try clear hcz153_3
          try clear hcz164_0
          try clear hcz164_1
          try clear hcz164_2
          try clear hcz164_3
          try clear hcz172_0
          try clear hcz172_1
          try clear hcz172_2
          try clear hcz172_3
          try clear hcz181_0
          try clear hcz181_1
          try clear hcz181_2
          try clear hcz181_3
          try clear hcz21_0
          try clear hcz21_1
          try clear hcz21_2
          try clear hcz21_3
          try clear hcz24_0
          try clear hcz24_1
          try clear hcz24_2
          try clear hcz24_3
          try clear hcz25_0
          try clear hcz25_1
          try clear hcz25_2
          try clear hcz25_3
          try clear hcz27_0
          try clear hcz27_1
          try clear hcz27_2
          try clear hcz30_0
          try clear hcz30_1
          try clear hcz30_2
          try clear hcz30_3
          try clear hcz33_0
          try clear hcz33_1
          try clear hcz33_2
          try clear hcz33_3
          try clear hcz34_0
          try clear hcz34_1
          try clear hcz34_2
          try clear hcz34_3
          try clear hcz36_0
          try clear hcz36_1
          try clear hcz36_2
          try clear hcz39_0
          try clear hcz39_1
          try clear hcz39_2
          try clear hcz39_3
          try clear hcz42_0
          try clear hcz42_1
          try clear hcz42_2
          try clear hcz42_3
          try clear hcz43_0
          try clear hcz43_1
          try clear hcz43_2
          try clear hcz43_3
          try clear hcz45_0
          try clear hcz45_1
          try clear hcz45_2
          try clear hcz48_0
          try clear hcz48_1
          try clear hcz48_2
          try clear hcz48_3
          try clear hcz51_0
          try clear hcz51_1
          try clear hcz51_2
          try clear hcz51_3
          try clear hcz52_0
          try clear hcz52_1
          try clear hcz52_2
          try clear hcz52_3
          try clear hcz54_0
          try clear hcz54_1
          try clear hcz54_2
          try clear hcz57_0
          try clear hcz57_1
          try clear hcz57_2
          try clear hcz57_3
          try clear hcz60_0
          try clear hcz60_1
          try clear hcz60_2
          try clear hcz60_3
          try clear hcz61_0
          try clear hcz61_1
          try clear hcz61_2
          try clear hcz61_3
          try clear hcz63_0
          try clear hcz63_1
          try clear hcz63_2
          try clear hcz66_0
          try clear hcz66_1
          try clear hcz66_2
          try clear hcz66_3
          try clear hcz69_0
          try clear hcz69_1
          try clear hcz69_2
          try clear hcz69_3
          try clear hcz70_0
          try clear hcz70_1
          try clear hcz70_2
          try clear hcz70_3
          try clear hcz74_0
          try clear hcz74_1
          try clear hcz74_2
          try clear hcz74_3
          try clear hcz85_0
          try clear hcz85_1
          try clear hcz85_2
          try clear hcz85_3
          try clear hcz87_0
          try clear hcz87_1
          try clear hcz87_2
          try clear hcz87_3
          try clear hcz88_0
          try clear hcz88_1
          try clear hcz88_2
          try clear hcz96_0
          try clear hcz96_1
          try clear hcz96_2
          try clear hcz96_3
          try clear hfz103_0
          try clear hfz103_1
          try clear hfz103_2
          try clear hfz103_3
          try clear hfz105_0
          try clear hfz105_1
          try clear hfz105_2
          try clear hfz105_3
          try clear hfz106_0
          try clear hfz106_1
          try clear hfz106_2
          try clear hfz106_3
          try clear hfz107_0
          try clear hfz107_1
          try clear hfz107_2
          try clear hfz117_0
          try clear hfz117_1
          try clear hfz117_2
          try clear hfz117_3
          try clear hfz126_0
          try clear hfz126_1
          try clear hfz126_2
          try clear hfz126_3
          try clear hfz128_0
          try clear hfz128_1
          try clear hfz128_2
          try clear hfz128_3
          try clear hfz129_0
          try clear hfz129_1
          try clear hfz129_2
          try clear hfz129_3
          try clear hfz130_0
          try clear hfz130_1
          try clear hfz130_2
          try clear hfz142_0
          try clear hfz142_1
          try clear hfz142_2
          try clear hfz142_3
          try clear hfz153_0
          try clear hfz153_1
          try clear hfz153_2
          try clear hfz153_3
          try clear hfz164_0
          try clear hfz164_1
          try clear hfz164_2
          try clear hfz164_3
          try clear hfz172_0
          try clear hfz172_1
          try clear hfz172_2
          try clear hfz172_3
          try clear hfz181_0
          try clear hfz181_1
          try clear hfz181_2
          try clear hfz181_3
          try clear hfz21_0
          try clear hfz21_1
          try clear hfz21_2
          try clear hfz21_3
          try clear hfz24_0
          try clear hfz24_1
          try clear hfz24_2
          try clear hfz24_3
          try clear hfz25_0
          try clear hfz25_1
          try clear hfz25_2
          try clear hfz25_3
          try clear hfz27_0
          try clear hfz27_1
          try clear hfz27_2
          try clear hfz30_0
          try clear hfz30_1
          try clear hfz30_2
          try clear hfz30_3
          try clear hfz33_0
          try clear hfz33_1
          try clear hfz33_2
          try clear hfz33_3
          try clear hfz34_0
          try clear hfz34_1
          try clear hfz34_2
          try clear hfz34_3
          try clear hfz36_0
          try clear hfz36_1
          try clear hfz36_2
          try clear hfz39_0
          try clear hfz39_1
          try clear hfz39_2
          try clear hfz39_3
          try clear hfz42_0
          try clear hfz42_1
          try clear hfz42_2
          try clear hfz42_3
          try clear hfz43_0
          try clear hfz43_1
          try clear hfz43_2
          try clear hfz43_3
          try clear hfz45_0
          try clear hfz45_1
          try clear hfz45_2
          try clear hfz48_0
          try clear hfz48_1
          try clear hfz48_2
          try clear hfz48_3
          try clear hfz51_0
          try clear hfz51_1
          try clear hfz51_2
          try clear hfz51_3
          try clear hfz52_0
          try clear hfz52_1
          try clear hfz52_2
          try clear hfz52_3
          try clear hfz54_0
          try clear hfz54_1
          try clear hfz54_2
          try clear hfz57_0
          try clear hfz57_1
          try clear hfz57_2
          try clear hfz57_3
          try clear hfz60_0
          try clear hfz60_1
          try clear hfz60_2
          try clear hfz60_3
          try clear hfz61_0
          try clear hfz61_1
          try clear hfz61_2
          try clear hfz61_3
          try clear hfz63_0
          try clear hfz63_1
          try clear hfz63_2
          try clear hfz66_0
          try clear hfz66_1
          try clear hfz66_2
          try clear hfz66_3
          try clear hfz69_0
          try clear hfz69_1
          try clear hfz69_2
          try clear hfz69_3
          try clear hfz70_0
          try clear hfz70_1
          try clear hfz70_2
          try clear hfz70_3
          try clear hfz74_0
          try clear hfz74_1
          try clear hfz74_2
          try clear hfz74_3
          try clear hfz85_0
          try clear hfz85_1
          try clear hfz85_2
          try clear hfz85_3
          try clear hfz87_0
          try clear hfz87_1
          try clear hfz87_2
          try clear hfz87_3
          try clear hfz88_0
          try clear hfz88_1
          try clear hfz88_2
          try clear hfz96_0
          try clear hfz96_1
          try clear hfz96_2
          try clear hfz96_3
          try clear p2
          try clear p6
          try clear p64
          obtain ⟨kq, x13_81, rfl, HA, HJ81, HO_482002, HO_482003, HO_496002, HO_496003, HO_510002, HO_510003, BK460, BK461, BK462, BK481, BK482, BK495, BK496, BK509, BK510, HB⟩ := hcut
          cases kq with
          | zero => exact absurd HA.out (by simp [sandglasslaw10_GcraParts.j1])
          | succ kj81 =>
            have H := HA.out
            clear HA
            simp only [sandglasslaw10_GcraParts.j1] at H
            by_cases c182 : (x13_81 == t505) = true
            · rw [if_pos c182] at H
              have c182b0 : (x13_81 == t505) = true := c182
              (try (have c182b1 : decide (x13_81 = t505) = true := by simpa using c182))
              (try (have c182b2 : (x13_81 == t505) = true := by simpa using c182))
              clear c182
              by_cases c183 : x13_81 = true
              · subst c183
                rw [if_pos rfl] at H
                replace H := Option.bind_eq_some_iff.mp H
                obtain ⟨t511, A1840, H⟩ := H
                have A184 := Aside0.mk A1840
                clear A1840
                by_cases c185 : t511 = true
                · subst c185
                  rw [if_pos rfl] at H
                  by_cases c186 : (t491 == t505 && (t492 == t506 && (t493 == t507 && (t494 == t508)))) = true
                  · rw [if_pos c186] at H
                    have c186b0 : (t491 == t505 && (t492 == t506 && (t493 == t507 && (t494 == t508)))) = true := c186
                    (try (have c186b1 : decide (t491 = t505 && (t492 == t506 && (t493 == t507 && (t494 == t508)))) = true := by simpa using c186))
                    (try (have c186b2 : (t491 == t505 && (t492 == t506 && (t493 == t507 && (t494 == t508)))) = true := by simpa using c186))
                    clear c186
                    replace H := Option.bind_eq_some_iff.mp H
                    obtain ⟨t512, A1870, H⟩ := H
                    have A187 := Aside0.mk A1870
                    clear A1870
                    obtain rfl := Option.some.inj H
                    have hnb188 := NB510_460.out
                    have hnc188 := NB460_510.out
                    have hnb189 := NB510_461.out
                    have hnc189 := NB461_510.out
                    have hnb190 := NB510_462.out
                    have hnc190 := NB462_510.out
                    have hnb191 := NB510_481.out
                    have hnc191 := NB481_510.out
                    have hnb192 := NB510_482.out
                    have hnc192 := NB482_510.out
                    have hnb193 := NB510_495.out
                    have hnc193 := NB495_510.out
                    have hnb194 := NB510_496.out
                    have hnc194 := NB496_510.out
                    have hnb195 := NB510_509.out
                    have hnc195 := NB509_510.out
                    obtain ⟨hcz196_0, hcz196_1, hcz196_2, hcz196_3⟩ := ce4 BK510
                    obtain ⟨hfz196_0, hfz196_1, hfz196_2, hfz196_3⟩ := fr4 BK510
                    have hnb197 := NB495_460.out
                    have hnc197 := NB460_495.out
                    have hnb198 := NB495_461.out
                    have hnc198 := NB461_495.out
                    have hnb199 := NB495_462.out
                    have hnc199 := NB462_495.out
                    have hnb200 := NB495_481.out
                    have hnc200 := NB481_495.out
                    have hnb201 := NB495_482.out
                    have hnc201 := NB482_495.out
                    have hnb202 := NB495_496.out
                    have hnc202 := NB496_495.out
                    have hnb203 := NB495_509.out
                    have hnc203 := NB509_495.out
                    obtain ⟨hcz204_0, hcz204_1, hcz204_2, hcz204_3⟩ := ce4 BK495
                    obtain ⟨hfz204_0, hfz204_1, hfz204_2, hfz204_3⟩ := fr4 BK495
                    have hnb205 := NB509_460.out
                    have hnc205 := NB460_509.out
                    have hnb206 := NB509_461.out
                    have hnc206 := NB461_509.out
                    have hnb207 := NB509_462.out
                    have hnc207 := NB462_509.out
                    have hnb208 := NB509_481.out
                    have hnc208 := NB481_509.out
                    have hnb209 := NB509_482.out
                    have hnc209 := NB482_509.out
                    have hnb210 := NB509_496.out
                    have hnc210 := NB496_509.out
                    obtain ⟨hcz211_0, hcz211_1, hcz211_2, hcz211_3⟩ := ce4 BK509
                    obtain ⟨hfz211_0, hfz211_1, hfz211_2, hfz211_3⟩ := fr4 BK509
                    go_wp2_with (first | (go_at_call 12; (with_reducible refine (sandglassref10_Same.calls kj81 t483 t484 _ _ t485 _ _ t488 t497 t498 _ _ t499 _ _ t502 true _ ?side1 ?side2 ?side3 ?side4 ?side5 ?side6 ?side7 ?side8 A184.out).mono ?_); (case side1 => repeat (first | exact (Kd.V_reads' HO_496002.out).2.2 | (with_reducible refine Kd.C_alloc ?_ _) | (with_reducible refine Kd.C_drewN ?_ _) | (with_reducible refine Kd.C_drew ?_))); (case side2 => exact (Kd.V_reads' HO_496002.out).2.1); (case side3 => repeat (first | exact (Kd.V_reads' HO_496003.out).2.2 | (with_reducible refine Kd.C_alloc ?_ _) | (with_reducible refine Kd.C_drewN ?_ _) | (with_reducible refine Kd.C_drew ?_))); (case side4 => exact (Kd.V_reads' HO_496003.out).2.1); (case side5 => repeat (first | exact (Kd.V_reads' HO_510002.out).2.2 | (with_reducible refine Kd.C_alloc ?_ _) | (with_reducible refine Kd.C_drewN ?_ _) | (with_reducible refine Kd.C_drew ?_))); (case side6 => exact (Kd.V_reads' HO_510002.out).2.1); (case side7 => repeat (first | exact (Kd.V_reads' HO_510003.out).2.2 | (with_reducible refine Kd.C_alloc ?_ _) | (with_reducible refine Kd.C_drewN ?_ _) | (with_reducible refine Kd.C_drew ?_))); (case side8 => exact (Kd.V_reads' HO_510003.out).2.1); rintro e w212 ⟨rfl, hb⟩; replace HO_482002 := vb HO_482002 hb; replace HO_482003 := vb HO_482003 hb; replace HO_496002 := vb HO_496002 hb; replace HO_496003 := vb HO_496003 hb; replace HO_510002 := vb HO_510002 hb; replace HO_510003 := vb HO_510003 hb; replace BK460 := Aside0.mk (blk_below (bo BK460) hb); replace BK461 := Aside0.mk (blk_below (bo BK461) hb); replace BK462 := Aside0.mk (blk_below (bo BK462) hb); replace BK481 := Aside0.mk (blk_below (bo BK481) hb); replace BK482 := Aside0.mk (blk_below (bo BK482) hb); replace BK495 := Aside0.mk (blk_below (bo BK495) hb); replace BK496 := Aside0.mk (blk_below (bo BK496) hb); replace BK509 := Aside0.mk (blk_below (bo BK509) hb); replace BK510 := Aside0.mk (blk_below (bo BK510) hb); replace HB := Aside0.mk (below_step (bl HB) hb); (try clear hb); (try clear hb2); (try clear hk); (try clear hi); have hnb213 := NB496_460.out; have hnc213 := NB460_496.out; have hnb214 := NB496_461.out; have hnc214 := NB461_496.out; have hnb215 := NB496_462.out; have hnc215 := NB462_496.out; have hnb216 := NB496_481.out; have hnc216 := NB481_496.out; have hnb217 := NB496_482.out; have hnc217 := NB482_496.out; obtain ⟨hcz218_0, hcz218_1, hcz218_2, hcz218_3⟩ := ce4 BK496; obtain ⟨hfz218_0, hfz218_1, hfz218_2, hfz218_3⟩ := fr4 BK496; obtain ⟨hcz219_0, hcz219_1, hcz219_2, hcz219_3⟩ := ce4 BK510; obtain ⟨hfz219_0, hfz219_1, hfz219_2, hfz219_3⟩ := fr4 BK510) | (go_at_call 9; (with_reducible refine (sandglasslaw10_live.calls kj81  t512 _ A187.out).mono ?_); rintro e w220 ⟨rfl, hb⟩; replace HO_482002 := vb HO_482002 hb; replace HO_482003 := vb HO_482003 hb; replace HO_496002 := vb HO_496002 hb; replace HO_496003 := vb HO_496003 hb; replace HO_510002 := vb HO_510002 hb; replace HO_510003 := vb HO_510003 hb; replace BK460 := Aside0.mk (blk_below (bo BK460) hb); replace BK461 := Aside0.mk (blk_below (bo BK461) hb); replace BK462 := Aside0.mk (blk_below (bo BK462) hb); replace BK481 := Aside0.mk (blk_below (bo BK481) hb); replace BK482 := Aside0.mk (blk_below (bo BK482) hb); replace BK495 := Aside0.mk (blk_below (bo BK495) hb); replace BK496 := Aside0.mk (blk_below (bo BK496) hb); replace BK509 := Aside0.mk (blk_below (bo BK509) hb); replace BK510 := Aside0.mk (blk_below (bo BK510) hb); replace HB := Aside0.mk (below_step (bl HB) hb); (try clear hb); (try clear hb2); (try clear hk); (try clear hi)))
                    go_ret
                    exact ⟨by first | (with_reducible rfl) | rfl | (simp [errW_none, errW_some] <;> rfl) | (simp [*, errW_none, errW_some] <;> rfl), bl HB⟩
                  · rw [if_neg c186] at H
                    exact absurd H (by simp)
                · replace c185 := Bool.eq_false_iff.mpr c185
                  subst c185
                  rw [if_neg (show ¬ (false = true) by decide)] at H
                  exact absurd H (by simp)
              · replace c183 := Bool.eq_false_iff.mpr c183
                subst c183
                rw [if_neg (show ¬ (false = true) by decide)] at H
                replace H := Option.bind_eq_some_iff.mp H
                obtain ⟨t513, A2210, H⟩ := H
                have A221 := Aside0.mk A2210
                clear A2210
                obtain rfl := Option.some.inj H
                have hnb222 := NB510_460.out
                have hnc222 := NB460_510.out
                have hnb223 := NB510_461.out
                have hnc223 := NB461_510.out
                have hnb224 := NB510_462.out
                have hnc224 := NB462_510.out
                have hnb225 := NB510_481.out
                have hnc225 := NB481_510.out
                have hnb226 := NB510_482.out
                have hnc226 := NB482_510.out
                have hnb227 := NB510_495.out
                have hnc227 := NB495_510.out
                have hnb228 := NB510_496.out
                have hnc228 := NB496_510.out
                have hnb229 := NB510_509.out
                have hnc229 := NB509_510.out
                obtain ⟨hcz230_0, hcz230_1, hcz230_2, hcz230_3⟩ := ce4 BK510
                obtain ⟨hfz230_0, hfz230_1, hfz230_2, hfz230_3⟩ := fr4 BK510
                go_wp2_with (first | (go_at_call 9; (with_reducible refine (sandglasslaw10_live.calls kj81  t513 _ A221.out).mono ?_); rintro e w231 ⟨rfl, hb⟩; replace HO_482002 := vb HO_482002 hb; replace HO_482003 := vb HO_482003 hb; replace HO_496002 := vb HO_496002 hb; replace HO_496003 := vb HO_496003 hb; replace HO_510002 := vb HO_510002 hb; replace HO_510003 := vb HO_510003 hb; replace BK460 := Aside0.mk (blk_below (bo BK460) hb); replace BK461 := Aside0.mk (blk_below (bo BK461) hb); replace BK462 := Aside0.mk (blk_below (bo BK462) hb); replace BK481 := Aside0.mk (blk_below (bo BK481) hb); replace BK482 := Aside0.mk (blk_below (bo BK482) hb); replace BK495 := Aside0.mk (blk_below (bo BK495) hb); replace BK496 := Aside0.mk (blk_below (bo BK496) hb); replace BK509 := Aside0.mk (blk_below (bo BK509) hb); replace BK510 := Aside0.mk (blk_below (bo BK510) hb); replace HB := Aside0.mk (below_step (bl HB) hb); (try clear hb); (try clear hb2); (try clear hk); (try clear hi)))
                go_ret
                exact ⟨by first | (with_reducible rfl) | rfl | (simp [errW_none, errW_some] <;> rfl) | (simp [*, errW_none, errW_some] <;> rfl), bl HB⟩
            · rw [if_neg c182] at H
              exact absurd H (by simp)

end Go.Proofs.Ytpeljhmbaibjcaa.Q
