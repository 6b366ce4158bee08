-- Laid by wip/tools/hprint.py, a program of this repo, over the kit's print; not a text of print.sh.
import Derived.Test.YtlnadabohaobnaaQ0
import Derived.Test.YtlnadabohaobnaaQ1
import Derived.Test.YtlnadabohaobnaaQ4
import Derived.Test.YtlnadabohaobnaaQ12
import Derived.Test.YtlnadabohaobnaaQ14
import Derived.Test.YtlnadabohaobnaaQ17
import Derived.Test.YtlnadabohaobnaaQ19
import Derived.Test.YtlnadabohaobnaaQ21
namespace Go.Proofs.Ytlnadabohaobnaa.Q
open Go.RowKit Go.Proofs.Ytlnadabohaobnaa.Zip Go.Proofs.YtlnadabohaobnaaW.PrintWords Go.Proofs.YtlnadabohaobnaaW.PrintLast Go.Proofs.YtlnadabohaobnaaW.PrintMore
attribute [local go_sem] max2_int min2_int max_two min_two max_three min_three max_four min_four   -- for this text's walks alone
set_option linter.unusedVariables false
set_option linter.unusedSimpArgs false

attribute [local go_sem high] eqA32
/-! ### sandglasslaw11_FixedParts: function 7 -/
mutual
def sandglasslaw11_FixedParts.j0 : Nat → Bool → Int → Int → Int → Int → Int → Int → List Int → List (S53) → Int → Int → Int → Option (Bool)
  | 0, _, _, _, _, _, _, _, _, _, _, _, _ => none
  | k + 1, x53, x419000, x419001, x419002, x419003, x420000, x420001, x420002, x420003, x421000, x421001, x421002 => if x53 = true then ((sandglasslaw11_live.f k).bind fun t426 => (some t426)) else ((fixed_Ask.f k x419000 x419001 x419002 x419003 x420000 x420001 x420002 x420003 x421000 x421001).bind fun bt427 => ((fixed_Ask.f k x419000 x419001 x419002 x419003 bt427.1 bt427.2.1 bt427.2.2.1 bt427.2.2.2.1 x421000 x421002).bind fun bt441 => ((fixed_Ask.f k x419000 x419001 x419002 x419003 x420000 x420001 x420002 x420003 x421000 (wrap64 (x421001 + x421002))).bind fun bt455 => (if bt427.2.2.2.2.1 = true then (sandglasslaw11_FixedParts.j1 k bt441.2.2.2.2.1 bt441.1 bt441.2.1 bt441.2.2.1 bt441.2.2.2.1 bt441.2.2.2.2.1 bt441.2.2.2.2.2.1 bt441.2.2.2.2.2.2.1 bt441.2.2.2.2.2.2.2 bt455.1 bt455.2.1 bt455.2.2.1 bt455.2.2.2.1 bt455.2.2.2.2.1 bt455.2.2.2.2.2.1 bt455.2.2.2.2.2.2.1 bt455.2.2.2.2.2.2.2) else (sandglasslaw11_FixedParts.j1 k false bt441.1 bt441.2.1 bt441.2.2.1 bt441.2.2.2.1 bt441.2.2.2.2.1 bt441.2.2.2.2.2.1 bt441.2.2.2.2.2.2.1 bt441.2.2.2.2.2.2.2 bt455.1 bt455.2.1 bt455.2.2.1 bt455.2.2.2.1 bt455.2.2.2.2.1 bt455.2.2.2.2.2.1 bt455.2.2.2.2.2.2.1 bt455.2.2.2.2.2.2.2)))))
def sandglasslaw11_FixedParts.j1 : Nat → Bool → Int → Int → List Int → List (S53) → Bool → Int → Int → Int → Int → Int → List Int → List (S53) → Bool → Int → Int → Int → Option (Bool)
  | 0, _, _, _, _, _, _, _, _, _, _, _, _, _, _, _, _, _ => none
  | k + 1, x13, x454000, x454001, x454002, x454003, x455000, x455001, x455002, x455003, x468000, x468001, x468002, x468003, x469000, x469001, x469002, x469003 => if (x13 == x469000) = true then (if x13 = true then ((sandglassref10_Same.f k x454000 x454001 x454002 x454003 x468000 x468001 x468002 x468003).bind fun t469 => (if t469 = true then (if (x455000 == x469000 && (x455001 == x469001 && (x455002 == x469002 && (x455003 == x469003)))) = true then ((sandglasslaw11_live.f k).bind fun t470 => (some t470)) else (none)) else (none))) else ((sandglasslaw11_live.f k).bind fun t471 => (some t471))) else (none)
end
def sandglasslaw11_FixedParts.f (k : Nat) (a0_0 : Int) (a0_1 : Int) (a0_2 : Int) (a0_3 : Int) (a1_0 : Int) (a1_1 : Int) (l1_2 : List Int) (l1_3 : List (S53)) (a2_0 : Int) (a2_1 : Int) (a2_2 : Int) : Option (Bool) := (sandglassref10_Few.f a1_0 a1_1 l1_2 l1_3).bind fun t421 => (if t421 = true then ((sandglassref11_May.f k a0_0 a0_1 a0_2 a0_3 a1_0 a1_1 l1_2 l1_3).bind fun t422 => (if t422 = true then ((sandglassref09_Weighs.f a2_1).bind fun t423 => (if t423 = true then ((sandglassref09_Weighs.f a2_2).bind fun t424 => (if t424 = true then ((sandglassref09_Weighs.f (wrap64 (a2_1 + a2_2))).bind fun t425 => (if t425 = true then (if a2_0 < 0 then (sandglasslaw11_FixedParts.j0 k true a0_0 a0_1 a0_2 a0_3 a1_0 a1_1 l1_2 l1_3 a2_0 a2_1 a2_2) else (sandglasslaw11_FixedParts.j0 k (decide (a2_0 > 1099511627776)) a0_0 a0_1 a0_2 a0_3 a1_0 a1_1 l1_2 l1_3 a2_0 a2_1 a2_2)) else (sandglasslaw11_FixedParts.j0 k true a0_0 a0_1 a0_2 a0_3 a1_0 a1_1 l1_2 l1_3 a2_0 a2_1 a2_2))) else (sandglasslaw11_FixedParts.j0 k true a0_0 a0_1 a0_2 a0_3 a1_0 a1_1 l1_2 l1_3 a2_0 a2_1 a2_2))) else (sandglasslaw11_FixedParts.j0 k true a0_0 a0_1 a0_2 a0_3 a1_0 a1_1 l1_2 l1_3 a2_0 a2_1 a2_2))) else (sandglasslaw11_FixedParts.j0 k true a0_0 a0_1 a0_2 a0_3 a1_0 a1_1 l1_2 l1_3 a2_0 a2_1 a2_2))) else (sandglasslaw11_FixedParts.j0 k true a0_0 a0_1 a0_2 a0_3 a1_0 a1_1 l1_2 l1_3 a2_0 a2_1 a2_2))
theorem sandglasslaw11_FixedParts.mono_l : ∀ k, (∀ y0 y1 y2 y3 y4 y5 y6 y7 y8 y9 y10 y11, LeO (sandglasslaw11_FixedParts.j0 k y0 y1 y2 y3 y4 y5 y6 y7 y8 y9 y10 y11) (sandglasslaw11_FixedParts.j0 (k + 1) y0 y1 y2 y3 y4 y5 y6 y7 y8 y9 y10 y11)) ∧ (∀ y0 y1 y2 y3 y4 y5 y6 y7 y8 y9 y10 y11 y12 y13 y14 y15 y16, LeO (sandglasslaw11_FixedParts.j1 k y0 y1 y2 y3 y4 y5 y6 y7 y8 y9 y10 y11 y12 y13 y14 y15 y16) (sandglasslaw11_FixedParts.j1 (k + 1) y0 y1 y2 y3 y4 y5 y6 y7 y8 y9 y10 y11 y12 y13 y14 y15 y16))
  | 0 => ⟨fun _ _ _ _ _ _ _ _ _ _ _ _ r h => by simp [sandglasslaw11_FixedParts.j0] at h, fun _ _ _ _ _ _ _ _ _ _ _ _ _ _ _ _ _ r h => by simp [sandglasslaw11_FixedParts.j1] at h⟩
  | k + 1 => by
    obtain ⟨ih0, ih1⟩ := sandglasslaw11_FixedParts.mono_l k
    refine ⟨?_, ?_⟩
    · intro y0 y1 y2 y3 y4 y5 y6 y7 y8 y9 y10 y11
      unfold sandglasslaw11_FixedParts.j0
      repeat' first
      | (with_reducible exact ih0 _ _ _ _ _ _ _ _ _ _ _ _)
      | (with_reducible exact ih1 _ _ _ _ _ _ _ _ _ _ _ _ _ _ _ _ _)
      | (with_reducible exact fixed_Ask.mono _ _ _ _ _ _ _ _ _ _ _)
      | (with_reducible exact sandglasslaw11_live.mono _)
      | (with_reducible exact sandglassref10_Same.mono _ _ _ _ _ _ _ _ _)
      | (with_reducible exact sandglassref11_May.mono _ _ _ _ _ _ _ _ _)
      | (with_reducible exact LeO.refl _)
      | (with_reducible exact LeO.none _)
      | (with_reducible refine LeO.ite ?_ ?_)
      | (with_reducible refine LeO.bind ?_ (fun _ => ?_))
      | exact ih0 _ _ _ _ _ _ _ _ _ _ _ _
      | exact ih1 _ _ _ _ _ _ _ _ _ _ _ _ _ _ _ _ _
      | exact fixed_Ask.mono _ _ _ _ _ _ _ _ _ _ _
      | exact sandglasslaw11_live.mono _
      | exact sandglassref10_Same.mono _ _ _ _ _ _ _ _ _
      | exact sandglassref11_May.mono _ _ _ _ _ _ _ _ _
      | exact LeO.none _
      | refine LeO.ite ?_ ?_
      | refine LeO.bind ?_ (fun _ => ?_)
    · intro y0 y1 y2 y3 y4 y5 y6 y7 y8 y9 y10 y11 y12 y13 y14 y15 y16
      unfold sandglasslaw11_FixedParts.j1
      repeat' first
      | (with_reducible exact ih0 _ _ _ _ _ _ _ _ _ _ _ _)
      | (with_reducible exact ih1 _ _ _ _ _ _ _ _ _ _ _ _ _ _ _ _ _)
      | (with_reducible exact fixed_Ask.mono _ _ _ _ _ _ _ _ _ _ _)
      | (with_reducible exact sandglasslaw11_live.mono _)
      | (with_reducible exact sandglassref10_Same.mono _ _ _ _ _ _ _ _ _)
      | (with_reducible exact sandglassref11_May.mono _ _ _ _ _ _ _ _ _)
      | (with_reducible exact LeO.refl _)
      | (with_reducible exact LeO.none _)
      | (with_reducible refine LeO.ite ?_ ?_)
      | (with_reducible refine LeO.bind ?_ (fun _ => ?_))
      | exact ih0 _ _ _ _ _ _ _ _ _ _ _ _
      | exact ih1 _ _ _ _ _ _ _ _ _ _ _ _ _ _ _ _ _
      | exact fixed_Ask.mono _ _ _ _ _ _ _ _ _ _ _
      | exact sandglasslaw11_live.mono _
      | exact sandglassref10_Same.mono _ _ _ _ _ _ _ _ _
      | exact sandglassref11_May.mono _ _ _ _ _ _ _ _ _
      | exact LeO.none _
      | refine LeO.ite ?_ ?_
      | refine LeO.bind ?_ (fun _ => ?_)
theorem sandglasslaw11_FixedParts.mono : ∀ a0 a1 a2 a3 a4 a5 a6 a7 a8 a9 a10 k, LeO (sandglasslaw11_FixedParts.f k a0 a1 a2 a3 a4 a5 a6 a7 a8 a9 a10) (sandglasslaw11_FixedParts.f (k + 1) a0 a1 a2 a3 a4 a5 a6 a7 a8 a9 a10) := by
  intro a0 a1 a2 a3 a4 a5 a6 a7 a8 a9 a10 k
  obtain ⟨ih0, ih1⟩ := sandglasslaw11_FixedParts.mono_l k
  unfold sandglasslaw11_FixedParts.f
  repeat' first
      | (with_reducible exact ih0 _ _ _ _ _ _ _ _ _ _ _ _)
      | (with_reducible exact ih1 _ _ _ _ _ _ _ _ _ _ _ _ _ _ _ _ _)
      | (with_reducible exact fixed_Ask.mono _ _ _ _ _ _ _ _ _ _ _)
      | (with_reducible exact sandglasslaw11_live.mono _)
      | (with_reducible exact sandglassref10_Same.mono _ _ _ _ _ _ _ _ _)
      | (with_reducible exact sandglassref11_May.mono _ _ _ _ _ _ _ _ _)
      | (with_reducible exact LeO.refl _)
      | (with_reducible exact LeO.none _)
      | (with_reducible refine LeO.ite ?_ ?_)
      | (with_reducible refine LeO.bind ?_ (fun _ => ?_))
      | exact ih0 _ _ _ _ _ _ _ _ _ _ _ _
      | exact ih1 _ _ _ _ _ _ _ _ _ _ _ _ _ _ _ _ _
      | exact fixed_Ask.mono _ _ _ _ _ _ _ _ _ _ _
      | exact sandglasslaw11_live.mono _
      | exact sandglassref10_Same.mono _ _ _ _ _ _ _ _ _
      | exact sandglassref11_May.mono _ _ _ _ _ _ _ _ _
      | exact LeO.none _
      | refine LeO.ite ?_ ?_
      | refine LeO.bind ?_ (fun _ => ?_)
set_option maxHeartbeats 8000000 in
set_option maxRecDepth 100000 in
theorem sandglasslaw11_FixedParts.calls (k : Nat) (a0_0 : Int) (a0_1 : Int) (a0_2 : Int) (a0_3 : Int) (a1_0 : Int) (a1_1 : Int) (A1_2 : Option Addr) (c1_2 : Nat) (l1_2 : List Int) (A1_3 : Option Addr) (c1_3 : Nat) (l1_3 : List (S53)) (a2_0 : Int) (a2_1 : Int) (a2_2 : Int) (r : Bool) (w : World) (hr1_2 : Kd.C (Kd.int .i64) w A1_2 l1_2.length l1_2) (hc1_2 : l1_2.length ≤ c1_2) (hr1_3 : Kd.C k53 w A1_3 l1_3.length l1_3) (hc1_3 : l1_3.length ≤ c1_3) (h : sandglasslaw11_FixedParts.f k a0_0 a0_1 a0_2 a0_3 a1_0 a1_1 l1_2 l1_3 a2_0 a2_1 a2_2 = some r) :
    Calls Try.prog 7 #[.agg #[.int .i64 a0_0, .int .i64 a0_1, .int .i64 a0_2, .int .i64 a0_3], .agg #[.int .i64 a1_0, .int .i64 a1_1, .slice A1_2 l1_2.length c1_2, .slice A1_3 l1_3.length c1_3], .agg #[.int .i64 a2_0, .int .i64 a2_1, .int .i64 a2_2]] w fun e w' => e = .returned (.bool r) ∧ Below w.heap.size w w' := by
  have hu23 := Try.underlying23
  have hu27 := Try.underlying27
  have hu47 := Try.underlying47
  have hu32 := Try.underlying32
  have HR1_2 := Aside0.mk hr1_2
  have HC1_2 := Aside0.mk hc1_2
  clear hr1_2 hc1_2
  have HR1_3 := Aside0.mk hr1_3
  have HC1_3 := Aside0.mk hc1_3
  clear hr1_3 hc1_3
  have HB := Aside0.mk (Below.refl w.heap.size w)
  have H : ((sandglassref10_Few.f a1_0 a1_1 l1_2 l1_3).bind fun t421 => (if t421 = true then ((sandglassref11_May.f k a0_0 a0_1 a0_2 a0_3 a1_0 a1_1 l1_2 l1_3).bind fun t422 => (if t422 = true then ((sandglassref09_Weighs.f a2_1).bind fun t423 => (if t423 = true then ((sandglassref09_Weighs.f a2_2).bind fun t424 => (if t424 = true then ((sandglassref09_Weighs.f (wrap64 (a2_1 + a2_2))).bind fun t425 => (if t425 = true then (if a2_0 < 0 then (sandglasslaw11_FixedParts.j0 k true a0_0 a0_1 a0_2 a0_3 a1_0 a1_1 l1_2 l1_3 a2_0 a2_1 a2_2) else (sandglasslaw11_FixedParts.j0 k (decide (a2_0 > 1099511627776)) a0_0 a0_1 a0_2 a0_3 a1_0 a1_1 l1_2 l1_3 a2_0 a2_1 a2_2)) else (sandglasslaw11_FixedParts.j0 k true a0_0 a0_1 a0_2 a0_3 a1_0 a1_1 l1_2 l1_3 a2_0 a2_1 a2_2))) else (sandglasslaw11_FixedParts.j0 k true a0_0 a0_1 a0_2 a0_3 a1_0 a1_1 l1_2 l1_3 a2_0 a2_1 a2_2))) else (sandglasslaw11_FixedParts.j0 k true a0_0 a0_1 a0_2 a0_3 a1_0 a1_1 l1_2 l1_3 a2_0 a2_1 a2_2))) else (sandglasslaw11_FixedParts.j0 k true a0_0 a0_1 a0_2 a0_3 a1_0 a1_1 l1_2 l1_3 a2_0 a2_1 a2_2))) else (sandglasslaw11_FixedParts.j0 k true a0_0 a0_1 a0_2 a0_3 a1_0 a1_1 l1_2 l1_3 a2_0 a2_1 a2_2))) = some r := h
  clear h
  have HC4 := Aside0.mk H
  clear H
  go_enter Try.func7, Try.ntmps7
  go_upto_region 1 with (first | ((with_reducible refine gate_dst (N := 3) rfl ?_); refine box_event ?hg (N := 3) ?hd (cs := #[.int .i64 a0_0, .int .i64 a0_1, .int .i64 a0_2, .int .i64 a0_3]) (t := 23) ?hr ?_; (case hd => rfl); (case hg => rfl); (case hr => first | (go_simp; done) | (go_simp; rfl)); intro gb418 hg w5 hbox hb; have BK418 := Aside0.mk (hbox); have GW418 := Aside0.mk ((by rw [hg]; exact (below_size (bl HB)) : w.heap.size ≤ gb418)); have GE418 := Aside0.mk ((by rw [hg]; exact (below_size (bl HB)) : w.heap.size ≤ gb418)); replace HB := Aside0.mk (below_step (bl HB) hb); clear hb hbox hg) | ((with_reducible refine gate_dst (N := 4) rfl ?_); refine box_event ?hg (N := 4) ?hd (cs := #[.int .i64 a1_0, .int .i64 a1_1, .slice A1_2 l1_2.length c1_2, .slice A1_3 l1_3.length c1_3]) (t := 27) ?hr ?_; (case hd => rfl); (case hg => rfl); (case hr => first | (go_simp; done) | (go_simp; rfl)); intro gb419 hg w6 hbox hb; have BK419 := Aside0.mk (hbox); have GW419 := Aside0.mk ((by rw [hg]; exact (below_size (bl HB)) : w.heap.size ≤ gb419)); have GE419 := Aside0.mk ((by rw [hg]; exact (below_size (bl HB)) : w.heap.size ≤ gb419)); have NB418_419 := nb BK418 hg; have NB419_418 := bn BK418 hg; replace BK418 := Aside0.mk (blk_below (bo BK418) hb); replace HB := Aside0.mk (below_step (bl HB) hb); clear hb hbox hg) | ((with_reducible refine gate_dst (N := 5) rfl ?_); refine box_event ?hg (N := 5) ?hd (cs := #[.int .i64 a2_0, .int .i64 a2_1, .int .i64 a2_2]) (t := 47) ?hr ?_; (case hd => rfl); (case hg => rfl); (case hr => first | (go_simp; done) | (go_simp; rfl)); intro gb420 hg w7 hbox hb; have BK420 := Aside0.mk (hbox); have GW420 := Aside0.mk ((by rw [hg]; exact (below_size (bl HB)) : w.heap.size ≤ gb420)); have GE420 := Aside0.mk ((by rw [hg]; exact (below_size (bl HB)) : w.heap.size ≤ gb420)); have NB418_420 := nb BK418 hg; have NB420_418 := bn BK418 hg; have NB419_420 := nb BK419 hg; have NB420_419 := bn BK419 hg; replace BK418 := Aside0.mk (blk_below (bo BK418) hb); replace BK419 := Aside0.mk (blk_below (bo BK419) hb); replace HB := Aside0.mk (below_step (bl HB) hb); clear hb hbox hg))
  (try simp only [Act.put, List.setIfInBounds_toArray, List.set_cons_zero, List.set_cons_succ])
  go_cut [53] (fun v53 wc => ∃ (kq : Nat) (x53_3 : Bool), v53 = .bool x53_3 ∧ Aside0 (sandglasslaw11_FixedParts.j0 kq x53_3 a0_0 a0_1 a0_2 a0_3 a1_0 a1_1 l1_2 l1_3 a2_0 a2_1 a2_2 = some r) ∧ Aside0 (kq ≤ k) ∧ Aside0 (wc.heap[gb418]? = some (.cells #[.int .i64 a0_0, .int .i64 a0_1, .int .i64 a0_2, .int .i64 a0_3] 23 (0, 0))) ∧ Aside0 (wc.heap[gb419]? = some (.cells #[.int .i64 a1_0, .int .i64 a1_1, (.slice A1_2 l1_2.length c1_2), (.slice A1_3 l1_3.length c1_3)] 27 (0, 0))) ∧ Aside0 (wc.heap[gb420]? = some (.cells #[.int .i64 a2_0, .int .i64 a2_1, .int .i64 a2_2] 47 (0, 0))) ∧ Aside0 (Below w.heap.size w wc))
  case first =>
    have H := HC4.out
    clear HC4
    replace H := Option.bind_eq_some_iff.mp H
    obtain ⟨t421, A80, H⟩ := H
    have A8 := Aside0.mk A80
    clear A80
    by_cases c9 : t421 = true
    · subst c9
      rw [if_pos rfl] at H
      replace H := Option.bind_eq_some_iff.mp H
      obtain ⟨t422, A100, H⟩ := H
      have A10 := Aside0.mk A100
      clear A100
      by_cases c11 : t422 = true
      · subst c11
        rw [if_pos rfl] at H
        replace H := Option.bind_eq_some_iff.mp H
        obtain ⟨t423, A120, H⟩ := H
        have A12 := Aside0.mk A120
        clear A120
        by_cases c13 : t423 = true
        · subst c13
          rw [if_pos rfl] at H
          replace H := Option.bind_eq_some_iff.mp H
          obtain ⟨t424, A140, H⟩ := H
          have A14 := Aside0.mk A140
          clear A140
          by_cases c15 : t424 = true
          · subst c15
            rw [if_pos rfl] at H
            replace H := Option.bind_eq_some_iff.mp H
            obtain ⟨t425, A160, H⟩ := H
            have A16 := Aside0.mk A160
            clear A160
            by_cases c17 : t425 = true
            · subst c17
              rw [if_pos rfl] at H
              by_cases c18 : a2_0 < 0
              · rw [if_pos c18] at H
                have c18b0 : decide (a2_0 < 0) = true := decide_eq_true c18
                clear c18
                (first | rw [c18b0] | (simp only [i64_w, i32_w]; rw [c18b0]) | skip)
                have H' := Aside0.mk H
                clear H
                have hnb19 := NB419_418.out
                have hnc19 := NB418_419.out
                have hnb20 := NB419_420.out
                have hnc20 := NB420_419.out
                obtain ⟨hcz21_0, hcz21_1, hcz21_2, hcz21_3⟩ := ce4 BK419
                obtain ⟨hfz21_0, hfz21_1, hfz21_2, hfz21_3⟩ := fr4 BK419
                go_wp2_with (first | ((with_reducible refine gate_callee (f := 8) rfl ?_); refine goesL_ (some 15) rfl rfl Try.func8 (by kernel_rfl) rfl #[.agg #[.int .i64 a1_0, .int .i64 a1_1, .slice A1_2 l1_2.length c1_2, .slice A1_3 l1_3.length c1_3]] rfl (by (try simp only [List.map_toArray, List.map_cons, List.map_nil]); first | done | rfl | (simp only [List.length_drop, List.length_take]; rfl)) ?_; (with_reducible refine (sandglassref10_Few.calls a1_0 a1_1 _ _ l1_2 _ _ l1_3 true _ ?side1 ?side2 ?side3 ?side4 A8.out).mono ?_); (case side1 => repeat (first | exact (Kd.C_below HR1_2.out HB.out) | (with_reducible refine Kd.C_alloc ?_ _) | (with_reducible refine Kd.C_drewN ?_ _) | (with_reducible refine Kd.C_drew ?_))); (case side2 => exact HC1_2.out); (case side3 => repeat (first | exact (Kd.C_below HR1_3.out HB.out) | (with_reducible refine Kd.C_alloc ?_ _) | (with_reducible refine Kd.C_drewN ?_ _) | (with_reducible refine Kd.C_drew ?_))); (case side4 => exact HC1_3.out); rintro e w22 ⟨rfl, hb⟩; refine ⟨_, rfl, ?_⟩; replace BK418 := Aside0.mk (blk_below (bo BK418) hb); replace BK419 := Aside0.mk (blk_below (bo BK419) hb); replace BK420 := Aside0.mk (blk_below (bo BK420) hb); replace HB := Aside0.mk (below_step (bl HB) hb); (try clear hb); (try clear hb2); (try clear hk); (try clear hi); have hnb23 := NB418_420.out; have hnc23 := NB420_418.out; obtain ⟨hcz24_0, hcz24_1, hcz24_2, hcz24_3⟩ := ce4 BK418; obtain ⟨hfz24_0, hfz24_1, hfz24_2, hfz24_3⟩ := fr4 BK418; obtain ⟨hcz25_0, hcz25_1, hcz25_2, hcz25_3⟩ := ce4 BK419; obtain ⟨hfz25_0, hfz25_1, hfz25_2, hfz25_3⟩ := fr4 BK419) | (go_at_call 14; (with_reducible refine (sandglassref11_May.calls k a0_0 a0_1 a0_2 a0_3 a1_0 a1_1 _ _ l1_2 _ _ l1_3 true _ ?side1 ?side2 ?side3 ?side4 A10.out).mono ?_); (case side1 => repeat (first | exact (Kd.C_below HR1_2.out HB.out) | (with_reducible refine Kd.C_alloc ?_ _) | (with_reducible refine Kd.C_drewN ?_ _) | (with_reducible refine Kd.C_drew ?_))); (case side2 => exact HC1_2.out); (case side3 => repeat (first | exact (Kd.C_below HR1_3.out HB.out) | (with_reducible refine Kd.C_alloc ?_ _) | (with_reducible refine Kd.C_drewN ?_ _) | (with_reducible refine Kd.C_drew ?_))); (case side4 => exact HC1_3.out); rintro e w26 ⟨rfl, hb⟩; replace BK418 := Aside0.mk (blk_below (bo BK418) hb); replace BK419 := Aside0.mk (blk_below (bo BK419) hb); replace BK420 := Aside0.mk (blk_below (bo BK420) hb); replace HB := Aside0.mk (below_step (bl HB) hb); (try clear hb); (try clear hb2); (try clear hk); (try clear hi); obtain ⟨hcz27_0, hcz27_1, hcz27_2⟩ := ce3 BK420; obtain ⟨hfz27_0, hfz27_1, hfz27_2⟩ := fr3 BK420) | (go_at_call 19; (with_reducible refine (sandglassref09_Weighs.calls a2_1 true _ A12.out).mono ?_); rintro e w' ⟨rfl, ⟨nd, rfl⟩⟩) | (go_at_call 19; (with_reducible refine (sandglassref09_Weighs.calls a2_2 true _ A14.out).mono ?_); rintro e w' ⟨rfl, ⟨nd, rfl⟩⟩) | (go_at_call 19; (with_reducible refine (sandglassref09_Weighs.calls (wrap64 (a2_1 + a2_2)) true _ A16.out).mono ?_); rintro e w' ⟨rfl, ⟨nd, rfl⟩⟩))
                go_meet
                case rel => exact ⟨_, (true), (by first | (with_reducible rfl) | rfl | (simp; done) | (simp [*]; done)), H', ⟨by first | omega | exact Nat.le_refl _⟩, ⟨bo BK418⟩, ⟨bo BK419⟩, ⟨bo BK420⟩, ⟨bl HB⟩⟩
              · rw [if_neg c18] at H
                have c18b0 : decide (a2_0 < 0) = false := decide_eq_false c18
                clear c18
                (first | rw [c18b0] | (simp only [i64_w, i32_w]; rw [c18b0]) | skip)
                have H' := Aside0.mk H
                clear H
                have hnb28 := NB419_418.out
                have hnc28 := NB418_419.out
                have hnb29 := NB419_420.out
                have hnc29 := NB420_419.out
                obtain ⟨hcz30_0, hcz30_1, hcz30_2, hcz30_3⟩ := ce4 BK419
                obtain ⟨hfz30_0, hfz30_1, hfz30_2, hfz30_3⟩ := fr4 BK419
                go_wp2_with (first | ((with_reducible refine gate_callee (f := 8) rfl ?_); refine goesL_ (some 15) rfl rfl Try.func8 (by kernel_rfl) rfl #[.agg #[.int .i64 a1_0, .int .i64 a1_1, .slice A1_2 l1_2.length c1_2, .slice A1_3 l1_3.length c1_3]] rfl (by (try simp only [List.map_toArray, List.map_cons, List.map_nil]); first | done | rfl | (simp only [List.length_drop, List.length_take]; rfl)) ?_; (with_reducible refine (sandglassref10_Few.calls a1_0 a1_1 _ _ l1_2 _ _ l1_3 true _ ?side1 ?side2 ?side3 ?side4 A8.out).mono ?_); (case side1 => repeat (first | exact (Kd.C_below HR1_2.out HB.out) | (with_reducible refine Kd.C_alloc ?_ _) | (with_reducible refine Kd.C_drewN ?_ _) | (with_reducible refine Kd.C_drew ?_))); (case side2 => exact HC1_2.out); (case side3 => repeat (first | exact (Kd.C_below HR1_3.out HB.out) | (with_reducible refine Kd.C_alloc ?_ _) | (with_reducible refine Kd.C_drewN ?_ _) | (with_reducible refine Kd.C_drew ?_))); (case side4 => exact HC1_3.out); rintro e w31 ⟨rfl, hb⟩; refine ⟨_, rfl, ?_⟩; replace BK418 := Aside0.mk (blk_below (bo BK418) hb); replace BK419 := Aside0.mk (blk_below (bo BK419) hb); replace BK420 := Aside0.mk (blk_below (bo BK420) hb); replace HB := Aside0.mk (below_step (bl HB) hb); (try clear hb); (try clear hb2); (try clear hk); (try clear hi); have hnb32 := NB418_420.out; have hnc32 := NB420_418.out; obtain ⟨hcz33_0, hcz33_1, hcz33_2, hcz33_3⟩ := ce4 BK418; obtain ⟨hfz33_0, hfz33_1, hfz33_2, hfz33_3⟩ := fr4 BK418; obtain ⟨hcz34_0, hcz34_1, hcz34_2, hcz34_3⟩ := ce4 BK419; obtain ⟨hfz34_0, hfz34_1, hfz34_2, hfz34_3⟩ := fr4 BK419) | (go_at_call 14; (with_reducible refine (sandglassref11_May.calls k a0_0 a0_1 a0_2 a0_3 a1_0 a1_1 _ _ l1_2 _ _ l1_3 true _ ?side1 ?side2 ?side3 ?side4 A10.out).mono ?_); (case side1 => repeat (first | exact (Kd.C_below HR1_2.out HB.out) | (with_reducible refine Kd.C_alloc ?_ _) | (with_reducible refine Kd.C_drewN ?_ _) | (with_reducible refine Kd.C_drew ?_))); (case side2 => exact HC1_2.out); (case side3 => repeat (first | exact (Kd.C_below HR1_3.out HB.out) | (with_reducible refine Kd.C_alloc ?_ _) | (with_reducible refine Kd.C_drewN ?_ _) | (with_reducible refine Kd.C_drew ?_))); (case side4 => exact HC1_3.out); rintro e w35 ⟨rfl, hb⟩; replace BK418 := Aside0.mk (blk_below (bo BK418) hb); replace BK419 := Aside0.mk (blk_below (bo BK419) hb); replace BK420 := Aside0.mk (blk_below (bo BK420) hb); replace HB := Aside0.mk (below_step (bl HB) hb); (try clear hb); (try clear hb2); (try clear hk); (try clear hi); obtain ⟨hcz36_0, hcz36_1, hcz36_2⟩ := ce3 BK420; obtain ⟨hfz36_0, hfz36_1, hfz36_2⟩ := fr3 BK420) | (go_at_call 19; (with_reducible refine (sandglassref09_Weighs.calls a2_1 true _ A12.out).mono ?_); rintro e w' ⟨rfl, ⟨nd, rfl⟩⟩) | (go_at_call 19; (with_reducible refine (sandglassref09_Weighs.calls a2_2 true _ A14.out).mono ?_); rintro e w' ⟨rfl, ⟨nd, rfl⟩⟩) | (go_at_call 19; (with_reducible refine (sandglassref09_Weighs.calls (wrap64 (a2_1 + a2_2)) true _ A16.out).mono ?_); rintro e w' ⟨rfl, ⟨nd, rfl⟩⟩))
                go_meet
                case rel => exact ⟨_, (decide (a2_0 > 1099511627776)), (by first | (with_reducible rfl) | rfl | (simp; done) | (simp [*]; done)), H', ⟨by first | omega | exact Nat.le_refl _⟩, ⟨bo BK418⟩, ⟨bo BK419⟩, ⟨bo BK420⟩, ⟨bl HB⟩⟩
            · replace c17 := Bool.eq_false_iff.mpr c17
              subst c17
              rw [if_neg (show ¬ (false = true) by decide)] at H
              have H' := Aside0.mk H
              clear H
              have hnb37 := NB419_418.out
              have hnc37 := NB418_419.out
              have hnb38 := NB419_420.out
              have hnc38 := NB420_419.out
              obtain ⟨hcz39_0, hcz39_1, hcz39_2, hcz39_3⟩ := ce4 BK419
              obtain ⟨hfz39_0, hfz39_1, hfz39_2, hfz39_3⟩ := fr4 BK419
              go_wp2_with (first | ((with_reducible refine gate_callee (f := 8) rfl ?_); refine goesL_ (some 15) rfl rfl Try.func8 (by kernel_rfl) rfl #[.agg #[.int .i64 a1_0, .int .i64 a1_1, .slice A1_2 l1_2.length c1_2, .slice A1_3 l1_3.length c1_3]] rfl (by (try simp only [List.map_toArray, List.map_cons, List.map_nil]); first | done | rfl | (simp only [List.length_drop, List.length_take]; rfl)) ?_; (with_reducible refine (sandglassref10_Few.calls a1_0 a1_1 _ _ l1_2 _ _ l1_3 true _ ?side1 ?side2 ?side3 ?side4 A8.out).mono ?_); (case side1 => repeat (first | exact (Kd.C_below HR1_2.out HB.out) | (with_reducible refine Kd.C_alloc ?_ _) | (with_reducible refine Kd.C_drewN ?_ _) | (with_reducible refine Kd.C_drew ?_))); (case side2 => exact HC1_2.out); (case side3 => repeat (first | exact (Kd.C_below HR1_3.out HB.out) | (with_reducible refine Kd.C_alloc ?_ _) | (with_reducible refine Kd.C_drewN ?_ _) | (with_reducible refine Kd.C_drew ?_))); (case side4 => exact HC1_3.out); rintro e w40 ⟨rfl, hb⟩; refine ⟨_, rfl, ?_⟩; replace BK418 := Aside0.mk (blk_below (bo BK418) hb); replace BK419 := Aside0.mk (blk_below (bo BK419) hb); replace BK420 := Aside0.mk (blk_below (bo BK420) hb); replace HB := Aside0.mk (below_step (bl HB) hb); (try clear hb); (try clear hb2); (try clear hk); (try clear hi); have hnb41 := NB418_420.out; have hnc41 := NB420_418.out; obtain ⟨hcz42_0, hcz42_1, hcz42_2, hcz42_3⟩ := ce4 BK418; obtain ⟨hfz42_0, hfz42_1, hfz42_2, hfz42_3⟩ := fr4 BK418; obtain ⟨hcz43_0, hcz43_1, hcz43_2, hcz43_3⟩ := ce4 BK419; obtain ⟨hfz43_0, hfz43_1, hfz43_2, hfz43_3⟩ := fr4 BK419) | (go_at_call 14; (with_reducible refine (sandglassref11_May.calls k a0_0 a0_1 a0_2 a0_3 a1_0 a1_1 _ _ l1_2 _ _ l1_3 true _ ?side1 ?side2 ?side3 ?side4 A10.out).mono ?_); (case side1 => repeat (first | exact (Kd.C_below HR1_2.out HB.out) | (with_reducible refine Kd.C_alloc ?_ _) | (with_reducible refine Kd.C_drewN ?_ _) | (with_reducible refine Kd.C_drew ?_))); (case side2 => exact HC1_2.out); (case side3 => repeat (first | exact (Kd.C_below HR1_3.out HB.out) | (with_reducible refine Kd.C_alloc ?_ _) | (with_reducible refine Kd.C_drewN ?_ _) | (with_reducible refine Kd.C_drew ?_))); (case side4 => exact HC1_3.out); rintro e w44 ⟨rfl, hb⟩; replace BK418 := Aside0.mk (blk_below (bo BK418) hb); replace BK419 := Aside0.mk (blk_below (bo BK419) hb); replace BK420 := Aside0.mk (blk_below (bo BK420) hb); replace HB := Aside0.mk (below_step (bl HB) hb); (try clear hb); (try clear hb2); (try clear hk); (try clear hi); obtain ⟨hcz45_0, hcz45_1, hcz45_2⟩ := ce3 BK420; obtain ⟨hfz45_0, hfz45_1, hfz45_2⟩ := fr3 BK420) | (go_at_call 19; (with_reducible refine (sandglassref09_Weighs.calls a2_1 true _ A12.out).mono ?_); rintro e w' ⟨rfl, ⟨nd, rfl⟩⟩) | (go_at_call 19; (with_reducible refine (sandglassref09_Weighs.calls a2_2 true _ A14.out).mono ?_); rintro e w' ⟨rfl, ⟨nd, rfl⟩⟩) | (go_at_call 19; (with_reducible refine (sandglassref09_Weighs.calls (wrap64 (a2_1 + a2_2)) false _ A16.out).mono ?_); rintro e w' ⟨rfl, ⟨nd, rfl⟩⟩))
              go_meet
              case rel => exact ⟨_, (true), (by first | (with_reducible rfl) | rfl | (simp; done) | (simp [*]; done)), H', ⟨by first | omega | exact Nat.le_refl _⟩, ⟨bo BK418⟩, ⟨bo BK419⟩, ⟨bo BK420⟩, ⟨bl HB⟩⟩
          · replace c15 := Bool.eq_false_iff.mpr c15
            subst c15
            rw [if_neg (show ¬ (false = true) by decide)] at H
            have H' := Aside0.mk H
            clear H
            have hnb46 := NB419_418.out
            have hnc46 := NB418_419.out
            have hnb47 := NB419_420.out
            have hnc47 := NB420_419.out
            obtain ⟨hcz48_0, hcz48_1, hcz48_2, hcz48_3⟩ := ce4 BK419
            obtain ⟨hfz48_0, hfz48_1, hfz48_2, hfz48_3⟩ := fr4 BK419
            go_wp2_with (first | ((with_reducible refine gate_callee (f := 8) rfl ?_); refine goesL_ (some 15) rfl rfl Try.func8 (by kernel_rfl) rfl #[.agg #[.int .i64 a1_0, .int .i64 a1_1, .slice A1_2 l1_2.length c1_2, .slice A1_3 l1_3.length c1_3]] rfl (by (try simp only [List.map_toArray, List.map_cons, List.map_nil]); first | done | rfl | (simp only [List.length_drop, List.length_take]; rfl)) ?_; (with_reducible refine (sandglassref10_Few.calls a1_0 a1_1 _ _ l1_2 _ _ l1_3 true _ ?side1 ?side2 ?side3 ?side4 A8.out).mono ?_); (case side1 => repeat (first | exact (Kd.C_below HR1_2.out HB.out) | (with_reducible refine Kd.C_alloc ?_ _) | (with_reducible refine Kd.C_drewN ?_ _) | (with_reducible refine Kd.C_drew ?_))); (case side2 => exact HC1_2.out); (case side3 => repeat (first | exact (Kd.C_below HR1_3.out HB.out) | (with_reducible refine Kd.C_alloc ?_ _) | (with_reducible refine Kd.C_drewN ?_ _) | (with_reducible refine Kd.C_drew ?_))); (case side4 => exact HC1_3.out); rintro e w49 ⟨rfl, hb⟩; refine ⟨_, rfl, ?_⟩; replace BK418 := Aside0.mk (blk_below (bo BK418) hb); replace BK419 := Aside0.mk (blk_below (bo BK419) hb); replace BK420 := Aside0.mk (blk_below (bo BK420) hb); replace HB := Aside0.mk (below_step (bl HB) hb); (try clear hb); (try clear hb2); (try clear hk); (try clear hi); have hnb50 := NB418_420.out; have hnc50 := NB420_418.out; obtain ⟨hcz51_0, hcz51_1, hcz51_2, hcz51_3⟩ := ce4 BK418; obtain ⟨hfz51_0, hfz51_1, hfz51_2, hfz51_3⟩ := fr4 BK418; obtain ⟨hcz52_0, hcz52_1, hcz52_2, hcz52_3⟩ := ce4 BK419; obtain ⟨hfz52_0, hfz52_1, hfz52_2, hfz52_3⟩ := fr4 BK419) | (go_at_call 14; (with_reducible refine (sandglassref11_May.calls k a0_0 a0_1 a0_2 a0_3 a1_0 a1_1 _ _ l1_2 _ _ l1_3 true _ ?side1 ?side2 ?side3 ?side4 A10.out).mono ?_); (case side1 => repeat (first | exact (Kd.C_below HR1_2.out HB.out) | (with_reducible refine Kd.C_alloc ?_ _) | (with_reducible refine Kd.C_drewN ?_ _) | (with_reducible refine Kd.C_drew ?_))); (case side2 => exact HC1_2.out); (case side3 => repeat (first | exact (Kd.C_below HR1_3.out HB.out) | (with_reducible refine Kd.C_alloc ?_ _) | (with_reducible refine Kd.C_drewN ?_ _) | (with_reducible refine Kd.C_drew ?_))); (case side4 => exact HC1_3.out); rintro e w53 ⟨rfl, hb⟩; replace BK418 := Aside0.mk (blk_below (bo BK418) hb); replace BK419 := Aside0.mk (blk_below (bo BK419) hb); replace BK420 := Aside0.mk (blk_below (bo BK420) hb); replace HB := Aside0.mk (below_step (bl HB) hb); (try clear hb); (try clear hb2); (try clear hk); (try clear hi); obtain ⟨hcz54_0, hcz54_1, hcz54_2⟩ := ce3 BK420; obtain ⟨hfz54_0, hfz54_1, hfz54_2⟩ := fr3 BK420) | (go_at_call 19; (with_reducible refine (sandglassref09_Weighs.calls a2_1 true _ A12.out).mono ?_); rintro e w' ⟨rfl, ⟨nd, rfl⟩⟩) | (go_at_call 19; (with_reducible refine (sandglassref09_Weighs.calls a2_2 false _ A14.out).mono ?_); rintro e w' ⟨rfl, ⟨nd, rfl⟩⟩))
            go_meet
            case rel => exact ⟨_, (true), (by first | (with_reducible rfl) | rfl | (simp; done) | (simp [*]; done)), H', ⟨by first | omega | exact Nat.le_refl _⟩, ⟨bo BK418⟩, ⟨bo BK419⟩, ⟨bo BK420⟩, ⟨bl HB⟩⟩
        · replace c13 := Bool.eq_false_iff.mpr c13
          subst c13
          rw [if_neg (show ¬ (false = true) by decide)] at H
          have H' := Aside0.mk H
          clear H
          have hnb55 := NB419_418.out
          have hnc55 := NB418_419.out
          have hnb56 := NB419_420.out
          have hnc56 := NB420_419.out
          obtain ⟨hcz57_0, hcz57_1, hcz57_2, hcz57_3⟩ := ce4 BK419
          obtain ⟨hfz57_0, hfz57_1, hfz57_2, hfz57_3⟩ := fr4 BK419
          go_wp2_with (first | ((with_reducible refine gate_callee (f := 8) rfl ?_); refine goesL_ (some 15) rfl rfl Try.func8 (by kernel_rfl) rfl #[.agg #[.int .i64 a1_0, .int .i64 a1_1, .slice A1_2 l1_2.length c1_2, .slice A1_3 l1_3.length c1_3]] rfl (by (try simp only [List.map_toArray, List.map_cons, List.map_nil]); first | done | rfl | (simp only [List.length_drop, List.length_take]; rfl)) ?_; (with_reducible refine (sandglassref10_Few.calls a1_0 a1_1 _ _ l1_2 _ _ l1_3 true _ ?side1 ?side2 ?side3 ?side4 A8.out).mono ?_); (case side1 => repeat (first | exact (Kd.C_below HR1_2.out HB.out) | (with_reducible refine Kd.C_alloc ?_ _) | (with_reducible refine Kd.C_drewN ?_ _) | (with_reducible refine Kd.C_drew ?_))); (case side2 => exact HC1_2.out); (case side3 => repeat (first | exact (Kd.C_below HR1_3.out HB.out) | (with_reducible refine Kd.C_alloc ?_ _) | (with_reducible refine Kd.C_drewN ?_ _) | (with_reducible refine Kd.C_drew ?_))); (case side4 => exact HC1_3.out); rintro e w58 ⟨rfl, hb⟩; refine ⟨_, rfl, ?_⟩; replace BK418 := Aside0.mk (blk_below (bo BK418) hb); replace BK419 := Aside0.mk (blk_below (bo BK419) hb); replace BK420 := Aside0.mk (blk_below (bo BK420) hb); replace HB := Aside0.mk (below_step (bl HB) hb); (try clear hb); (try clear hb2); (try clear hk); (try clear hi); have hnb59 := NB418_420.out; have hnc59 := NB420_418.out; obtain ⟨hcz60_0, hcz60_1, hcz60_2, hcz60_3⟩ := ce4 BK418; obtain ⟨hfz60_0, hfz60_1, hfz60_2, hfz60_3⟩ := fr4 BK418; obtain ⟨hcz61_0, hcz61_1, hcz61_2, hcz61_3⟩ := ce4 BK419; obtain ⟨hfz61_0, hfz61_1, hfz61_2, hfz61_3⟩ := fr4 BK419) | (go_at_call 14; (with_reducible refine (sandglassref11_May.calls k a0_0 a0_1 a0_2 a0_3 a1_0 a1_1 _ _ l1_2 _ _ l1_3 true _ ?side1 ?side2 ?side3 ?side4 A10.out).mono ?_); (case side1 => repeat (first | exact (Kd.C_below HR1_2.out HB.out) | (with_reducible refine Kd.C_alloc ?_ _) | (with_reducible refine Kd.C_drewN ?_ _) | (with_reducible refine Kd.C_drew ?_))); (case side2 => exact HC1_2.out); (case side3 => repeat (first | exact (Kd.C_below HR1_3.out HB.out) | (with_reducible refine Kd.C_alloc ?_ _) | (with_reducible refine Kd.C_drewN ?_ _) | (with_reducible refine Kd.C_drew ?_))); (case side4 => exact HC1_3.out); rintro e w62 ⟨rfl, hb⟩; replace BK418 := Aside0.mk (blk_below (bo BK418) hb); replace BK419 := Aside0.mk (blk_below (bo BK419) hb); replace BK420 := Aside0.mk (blk_below (bo BK420) hb); replace HB := Aside0.mk (below_step (bl HB) hb); (try clear hb); (try clear hb2); (try clear hk); (try clear hi); obtain ⟨hcz63_0, hcz63_1, hcz63_2⟩ := ce3 BK420; obtain ⟨hfz63_0, hfz63_1, hfz63_2⟩ := fr3 BK420) | (go_at_call 19; (with_reducible refine (sandglassref09_Weighs.calls a2_1 false _ A12.out).mono ?_); rintro e w' ⟨rfl, ⟨nd, rfl⟩⟩))
          go_meet
          case rel => exact ⟨_, (true), (by first | (with_reducible rfl) | rfl | (simp; done) | (simp [*]; done)), H', ⟨by first | omega | exact Nat.le_refl _⟩, ⟨bo BK418⟩, ⟨bo BK419⟩, ⟨bo BK420⟩, ⟨bl HB⟩⟩
      · replace c11 := Bool.eq_false_iff.mpr c11
        subst c11
        rw [if_neg (show ¬ (false = true) by decide)] at H
        have H' := Aside0.mk H
        clear H
        have hnb64 := NB419_418.out
        have hnc64 := NB418_419.out
        have hnb65 := NB419_420.out
        have hnc65 := NB420_419.out
        obtain ⟨hcz66_0, hcz66_1, hcz66_2, hcz66_3⟩ := ce4 BK419
        obtain ⟨hfz66_0, hfz66_1, hfz66_2, hfz66_3⟩ := fr4 BK419
        go_wp2_with (first | ((with_reducible refine gate_callee (f := 8) rfl ?_); refine goesL_ (some 15) rfl rfl Try.func8 (by kernel_rfl) rfl #[.agg #[.int .i64 a1_0, .int .i64 a1_1, .slice A1_2 l1_2.length c1_2, .slice A1_3 l1_3.length c1_3]] rfl (by (try simp only [List.map_toArray, List.map_cons, List.map_nil]); first | done | rfl | (simp only [List.length_drop, List.length_take]; rfl)) ?_; (with_reducible refine (sandglassref10_Few.calls a1_0 a1_1 _ _ l1_2 _ _ l1_3 true _ ?side1 ?side2 ?side3 ?side4 A8.out).mono ?_); (case side1 => repeat (first | exact (Kd.C_below HR1_2.out HB.out) | (with_reducible refine Kd.C_alloc ?_ _) | (with_reducible refine Kd.C_drewN ?_ _) | (with_reducible refine Kd.C_drew ?_))); (case side2 => exact HC1_2.out); (case side3 => repeat (first | exact (Kd.C_below HR1_3.out HB.out) | (with_reducible refine Kd.C_alloc ?_ _) | (with_reducible refine Kd.C_drewN ?_ _) | (with_reducible refine Kd.C_drew ?_))); (case side4 => exact HC1_3.out); rintro e w67 ⟨rfl, hb⟩; refine ⟨_, rfl, ?_⟩; replace BK418 := Aside0.mk (blk_below (bo BK418) hb); replace BK419 := Aside0.mk (blk_below (bo BK419) hb); replace BK420 := Aside0.mk (blk_below (bo BK420) hb); replace HB := Aside0.mk (below_step (bl HB) hb); (try clear hb); (try clear hb2); (try clear hk); (try clear hi); have hnb68 := NB418_420.out; have hnc68 := NB420_418.out; obtain ⟨hcz69_0, hcz69_1, hcz69_2, hcz69_3⟩ := ce4 BK418; obtain ⟨hfz69_0, hfz69_1, hfz69_2, hfz69_3⟩ := fr4 BK418; obtain ⟨hcz70_0, hcz70_1, hcz70_2, hcz70_3⟩ := ce4 BK419; obtain ⟨hfz70_0, hfz70_1, hfz70_2, hfz70_3⟩ := fr4 BK419) | (go_at_call 14; (with_reducible refine (sandglassref11_May.calls k a0_0 a0_1 a0_2 a0_3 a1_0 a1_1 _ _ l1_2 _ _ l1_3 false _ ?side1 ?side2 ?side3 ?side4 A10.out).mono ?_); (case side1 => repeat (first | exact (Kd.C_below HR1_2.out HB.out) | (with_reducible refine Kd.C_alloc ?_ _) | (with_reducible refine Kd.C_drewN ?_ _) | (with_reducible refine Kd.C_drew ?_))); (case side2 => exact HC1_2.out); (case side3 => repeat (first | exact (Kd.C_below HR1_3.out HB.out) | (with_reducible refine Kd.C_alloc ?_ _) | (with_reducible refine Kd.C_drewN ?_ _) | (with_reducible refine Kd.C_drew ?_))); (case side4 => exact HC1_3.out); rintro e w71 ⟨rfl, hb⟩; replace BK418 := Aside0.mk (blk_below (bo BK418) hb); replace BK419 := Aside0.mk (blk_below (bo BK419) hb); replace BK420 := Aside0.mk (blk_below (bo BK420) hb); replace HB := Aside0.mk (below_step (bl HB) hb); (try clear hb); (try clear hb2); (try clear hk); (try clear hi)))
        go_meet
        case rel => exact ⟨_, (true), (by first | (with_reducible rfl) | rfl | (simp; done) | (simp [*]; done)), H', ⟨by first | omega | exact Nat.le_refl _⟩, ⟨bo BK418⟩, ⟨bo BK419⟩, ⟨bo BK420⟩, ⟨bl HB⟩⟩
    · replace c9 := Bool.eq_false_iff.mpr c9
      subst c9
      rw [if_neg (show ¬ (false = true) by decide)] at H
      have H' := Aside0.mk H
      clear H
      have hnb72 := NB419_418.out
      have hnc72 := NB418_419.out
      have hnb73 := NB419_420.out
      have hnc73 := NB420_419.out
      obtain ⟨hcz74_0, hcz74_1, hcz74_2, hcz74_3⟩ := ce4 BK419
      obtain ⟨hfz74_0, hfz74_1, hfz74_2, hfz74_3⟩ := fr4 BK419
      go_wp2_with (first | ((with_reducible refine gate_callee (f := 8) rfl ?_); refine goesL_ (some 15) rfl rfl Try.func8 (by kernel_rfl) rfl #[.agg #[.int .i64 a1_0, .int .i64 a1_1, .slice A1_2 l1_2.length c1_2, .slice A1_3 l1_3.length c1_3]] rfl (by (try simp only [List.map_toArray, List.map_cons, List.map_nil]); first | done | rfl | (simp only [List.length_drop, List.length_take]; rfl)) ?_; (with_reducible refine (sandglassref10_Few.calls a1_0 a1_1 _ _ l1_2 _ _ l1_3 false _ ?side1 ?side2 ?side3 ?side4 A8.out).mono ?_); (case side1 => repeat (first | exact (Kd.C_below HR1_2.out HB.out) | (with_reducible refine Kd.C_alloc ?_ _) | (with_reducible refine Kd.C_drewN ?_ _) | (with_reducible refine Kd.C_drew ?_))); (case side2 => exact HC1_2.out); (case side3 => repeat (first | exact (Kd.C_below HR1_3.out HB.out) | (with_reducible refine Kd.C_alloc ?_ _) | (with_reducible refine Kd.C_drewN ?_ _) | (with_reducible refine Kd.C_drew ?_))); (case side4 => exact HC1_3.out); rintro e w75 ⟨rfl, hb⟩; refine ⟨_, rfl, ?_⟩; replace BK418 := Aside0.mk (blk_below (bo BK418) hb); replace BK419 := Aside0.mk (blk_below (bo BK419) hb); replace BK420 := Aside0.mk (blk_below (bo BK420) hb); replace HB := Aside0.mk (below_step (bl HB) hb); (try clear hb); (try clear hb2); (try clear hk); (try clear hi)))
      go_meet
      case rel => exact ⟨_, (true), (by first | (with_reducible rfl) | rfl | (simp; done) | (simp [*]; done)), H', ⟨by first | omega | exact Nat.le_refl _⟩, ⟨bo BK418⟩, ⟨bo BK419⟩, ⟨bo BK420⟩, ⟨bl HB⟩⟩
  case rest =>
    clear HC4
    try clear c1
    try clear c2
    try clear p2
    try clear c3
    try clear c4
    try clear c5
    try clear c6
    try clear p6
    try clear c7
    try clear c8
    try clear c9
    try clear c11
    try clear c13
    try clear c15
    try clear c17
    try clear c18
    try clear c18b0
    try clear c19
    try clear c20
    try clear c23
    try clear c28
    try clear c29
    try clear c32
    try clear c37
    try clear c38
    try clear c41
    try clear c46
    try clear c47
    try clear c50
    try clear c55
    try clear c56
    try clear c59
    try clear c64
    try clear p64
    try clear c65
    try clear c68
    try clear c72
    try clear c73
    try clear hcz21_0
    try clear hcz21_1
    try clear hcz21_2
    try clear hcz21_3
    try clear hcz24_0
    try clear hcz24_1
    try clear hcz24_2
    try clear hcz24_3
    try clear hcz25_0
    try clear hcz25_1
    try clear hcz25_2
    try clear hcz25_3
    try clear hcz27_0
    try clear hcz27_1
    try clear hcz27_2
    try clear hcz30_0
    try clear hcz30_1
    try clear hcz30_2
    try clear hcz30_3
    try clear hcz33_0
    try clear hcz33_1
    try clear hcz33_2
    try clear hcz33_3
    try clear hcz34_0
    try clear hcz34_1
    try clear hcz34_2
    try clear hcz34_3
    try clear hcz36_0
    try clear hcz36_1
    try clear hcz36_2
    try clear hcz39_0
    try clear hcz39_1
    try clear hcz39_2
    try clear hcz39_3
    try clear hcz42_0
    try clear hcz42_1
    try clear hcz42_2
    try clear hcz42_3
    try clear hcz43_0
    try clear hcz43_1
    try clear hcz43_2
    try clear hcz43_3
    try clear hcz45_0
    try clear hcz45_1
    try clear hcz45_2
    try clear hcz48_0
    try clear hcz48_1
    try clear hcz48_2
    try clear hcz48_3
    try clear hcz51_0
    try clear hcz51_1
    try clear hcz51_2
    try clear hcz51_3
    try clear hcz52_0
    try clear hcz52_1
    try clear hcz52_2
    try clear hcz52_3
    try clear hcz54_0
    try clear hcz54_1
    try clear hcz54_2
    try clear hcz57_0
    try clear hcz57_1
    try clear hcz57_2
    try clear hcz57_3
    try clear hcz60_0
    try clear hcz60_1
    try clear hcz60_2
    try clear hcz60_3
    try clear hcz61_0
    try clear hcz61_1
    try clear hcz61_2
    try clear hcz61_3
    try clear hcz63_0
    try clear hcz63_1
    try clear hcz63_2
    try clear hcz66_0
    try clear hcz66_1
    try clear hcz66_2
    try clear hcz66_3
    try clear hcz69_0
    try clear hcz69_1
    try clear hcz69_2
    try clear hcz69_3
    try clear hcz70_0
    try clear hcz70_1
    try clear hcz70_2
    try clear hcz70_3
    try clear hcz74_0
    try clear hcz74_1
    try clear hcz74_2
    try clear hcz74_3
    try clear hfz21_0
    try clear hfz21_1
    try clear hfz21_2
    try clear hfz21_3
    try clear hfz24_0
    try clear hfz24_1
    try clear hfz24_2
    try clear hfz24_3
    try clear hfz25_0
    try clear hfz25_1
    try clear hfz25_2
    try clear hfz25_3
    try clear hfz27_0
    try clear hfz27_1
    try clear hfz27_2
    try clear hfz30_0
    try clear hfz30_1
    try clear hfz30_2
    try clear hfz30_3
    try clear hfz33_0
    try clear hfz33_1
    try clear hfz33_2
    try clear hfz33_3
    try clear hfz34_0
    try clear hfz34_1
    try clear hfz34_2
    try clear hfz34_3
    try clear hfz36_0
    try clear hfz36_1
    try clear hfz36_2
    try clear hfz39_0
    try clear hfz39_1
    try clear hfz39_2
    try clear hfz39_3
    try clear hfz42_0
    try clear hfz42_1
    try clear hfz42_2
    try clear hfz42_3
    try clear hfz43_0
    try clear hfz43_1
    try clear hfz43_2
    try clear hfz43_3
    try clear hfz45_0
    try clear hfz45_1
    try clear hfz45_2
    try clear hfz48_0
    try clear hfz48_1
    try clear hfz48_2
    try clear hfz48_3
    try clear hfz51_0
    try clear hfz51_1
    try clear hfz51_2
    try clear hfz51_3
    try clear hfz52_0
    try clear hfz52_1
    try clear hfz52_2
    try clear hfz52_3
    try clear hfz54_0
    try clear hfz54_1
    try clear hfz54_2
    try clear hfz57_0
    try clear hfz57_1
    try clear hfz57_2
    try clear hfz57_3
    try clear hfz60_0
    try clear hfz60_1
    try clear hfz60_2
    try clear hfz60_3
    try clear hfz61_0
    try clear hfz61_1
    try clear hfz61_2
    try clear hfz61_3
    try clear hfz63_0
    try clear hfz63_1
    try clear hfz63_2
    try clear hfz66_0
    try clear hfz66_1
    try clear hfz66_2
    try clear hfz66_3
    try clear hfz69_0
    try clear hfz69_1
    try clear hfz69_2
    try clear hfz69_3
    try clear hfz70_0
    try clear hfz70_1
    try clear hfz70_2
    try clear hfz70_3
    try clear hfz74_0
    try clear hfz74_1
    try clear hfz74_2
    try clear hfz74_3
    obtain ⟨kq, x53_3, rfl, HA, HJ3, BK418, BK419, BK420, HB⟩ := hcut
    cases kq with
    | zero => exact absurd HA.out (by simp [sandglasslaw11_FixedParts.j0])
    | succ kj3 =>
      have H := HA.out
      clear HA
      simp only [sandglasslaw11_FixedParts.j0] at H
      by_cases c76 : x53_3 = true
      · subst c76
        rw [if_pos rfl] at H
        replace H := Option.bind_eq_some_iff.mp H
        obtain ⟨t426, A770, H⟩ := H
        have A77 := Aside0.mk A770
        clear A770
        obtain rfl := Option.some.inj H
        go_wp2_with (first | ((with_reducible refine gate_callee (f := 9) rfl ?_); refine goesL_ (some 54) rfl rfl Try.func9 (by kernel_rfl) rfl #[] rfl (by (try simp only [List.map_toArray, List.map_cons, List.map_nil]); first | done | rfl | (simp only [List.length_drop, List.length_take]; rfl)) ?_; (with_reducible refine (sandglasslaw11_live.calls kj3  t426 _ A77.out).mono ?_); rintro e w78 ⟨rfl, hb⟩; refine ⟨_, rfl, ?_⟩; replace BK418 := Aside0.mk (blk_below (bo BK418) hb); replace BK419 := Aside0.mk (blk_below (bo BK419) hb); replace BK420 := Aside0.mk (blk_below (bo BK420) hb); replace HB := Aside0.mk (below_step (bl HB) hb); (try clear hb); (try clear hb2); (try clear hk); (try clear hi)))
        go_ret
        exact ⟨by first | (with_reducible rfl) | rfl | (simp [errW_none, errW_some] <;> rfl) | (simp [*, errW_none, errW_some] <;> rfl), bl HB⟩
      · replace c76 := Bool.eq_false_iff.mpr c76
        subst c76
        rw [if_neg (show ¬ (false = true) by decide)] at H
        replace H := Option.bind_eq_some_iff.mp H
        obtain ⟨⟨t427, t428, t429, t432, t435, t436, t437, t438⟩, A790, H⟩ := H
        have A79 := Aside0.mk A790
        clear A790
        replace H := Option.bind_eq_some_iff.mp H
        obtain ⟨⟨t441, t442, t443, t446, t449, t450, t451, t452⟩, A800, H⟩ := H
        have A80 := Aside0.mk A800
        clear A800
        replace H := Option.bind_eq_some_iff.mp H
        obtain ⟨⟨t455, t456, t457, t460, t463, t464, t465, t466⟩, A810, H⟩ := H
        have A81 := Aside0.mk A810
        clear A810
        have HC82 := Aside0.mk H
        clear H
        have hnb83 := NB418_419.out
        have hnc83 := NB419_418.out
        have hnb84 := NB418_420.out
        have hnc84 := NB420_418.out
        obtain ⟨hcz85_0, hcz85_1, hcz85_2, hcz85_3⟩ := ce4 BK418
        obtain ⟨hfz85_0, hfz85_1, hfz85_2, hfz85_3⟩ := fr4 BK418
        have hnb86 := NB419_420.out
        have hnc86 := NB420_419.out
        obtain ⟨hcz87_0, hcz87_1, hcz87_2, hcz87_3⟩ := ce4 BK419
        obtain ⟨hfz87_0, hfz87_1, hfz87_2, hfz87_3⟩ := fr4 BK419
        obtain ⟨hcz88_0, hcz88_1, hcz88_2⟩ := ce3 BK420
        obtain ⟨hfz88_0, hfz88_1, hfz88_2⟩ := fr3 BK420
        go_upto_region 6 with (first | ((with_reducible refine gate_callee (f := 10) rfl ?_); refine goesL_ (some 62) rfl rfl Try.func10 (by kernel_rfl) rfl #[.agg #[.int .i64 a0_0, .int .i64 a0_1, .int .i64 a0_2, .int .i64 a0_3], .agg #[.int .i64 a1_0, .int .i64 a1_1, .slice A1_2 l1_2.length c1_2, .slice A1_3 l1_3.length c1_3], .int .i64 a2_0, .int .i64 a2_1] rfl (by (try simp only [List.map_toArray, List.map_cons, List.map_nil]); first | done | rfl | (simp only [List.length_drop, List.length_take]; rfl)) ?_; (with_reducible refine (fixed_Ask.calls kj3 a0_0 a0_1 a0_2 a0_3 a1_0 a1_1 (fun k_ => k_ < w.heap.size) _ _ l1_2 (fun k_ => k_ < w.heap.size) _ _ l1_3 a2_0 a2_1 t427 t428 t429 t432 t435 t436 t437 t438 _ ?side1 ?side2 A79.out).mono ?_); (case side1 => exact Kd.V_mk HC1_2.out (Kd.F_below (Kd.C_F (Kd.heap_int .i64) HR1_2.out) (bl HB))); (case side2 => exact Kd.V_mk HC1_3.out (Kd.F_below (Kd.C_F k53_heap HR1_3.out) (bl HB))); rintro e w89 ⟨v430, v433, rfl, ho0, ho1, hb⟩; refine ⟨_, rfl, ?_⟩; have HO431 := Aside0.mk (Kd.V_lower (Kd.V_mono (ok' := fun k_ => k_ ≠ gb418 ∧ k_ ≠ gb419 ∧ k_ ≠ gb420) ho0 (fun k_ hk_ => ⟨Or.elim hk_ (fun hs_ => Or.elim hs_ (fun hs_ => fun e_ => Nat.not_le.2 hs_ (by rw [e_]; exact GW418.out)) (fun hs_ => fun e_ => Nat.not_le.2 hs_ (by rw [e_]; exact GW418.out))) (fun hn_ => (Kd.freshB (bo BK418) k_ hn_)), Or.elim hk_ (fun hs_ => Or.elim hs_ (fun hs_ => fun e_ => Nat.not_le.2 hs_ (by rw [e_]; exact GW419.out)) (fun hs_ => fun e_ => Nat.not_le.2 hs_ (by rw [e_]; exact GW419.out))) (fun hn_ => (Kd.freshB (bo BK419) k_ hn_)), Or.elim hk_ (fun hs_ => Or.elim hs_ (fun hs_ => fun e_ => Nat.not_le.2 hs_ (by rw [e_]; exact GW420.out)) (fun hs_ => fun e_ => Nat.not_le.2 hs_ (by rw [e_]; exact GW420.out))) (fun hn_ => (Kd.freshB (bo BK420) k_ hn_))⟩)) (below_size (bl HB))); have HO434 := Aside0.mk (Kd.V_lower (Kd.V_mono (ok' := fun k_ => k_ ≠ gb418 ∧ k_ ≠ gb419 ∧ k_ ≠ gb420) ho1 (fun k_ hk_ => ⟨Or.elim hk_ (fun hs_ => Or.elim hs_ (fun hs_ => fun e_ => Nat.not_le.2 hs_ (by rw [e_]; exact GW418.out)) (fun hs_ => fun e_ => Nat.not_le.2 hs_ (by rw [e_]; exact GW418.out))) (fun hn_ => (Kd.freshB (bo BK418) k_ hn_)), Or.elim hk_ (fun hs_ => Or.elim hs_ (fun hs_ => fun e_ => Nat.not_le.2 hs_ (by rw [e_]; exact GW419.out)) (fun hs_ => fun e_ => Nat.not_le.2 hs_ (by rw [e_]; exact GW419.out))) (fun hn_ => (Kd.freshB (bo BK419) k_ hn_)), Or.elim hk_ (fun hs_ => Or.elim hs_ (fun hs_ => fun e_ => Nat.not_le.2 hs_ (by rw [e_]; exact GW420.out)) (fun hs_ => fun e_ => Nat.not_le.2 hs_ (by rw [e_]; exact GW420.out))) (fun hn_ => (Kd.freshB (bo BK420) k_ hn_))⟩)) (below_size (bl HB))); replace BK418 := Aside0.mk (blk_below (bo BK418) hb); replace BK419 := Aside0.mk (blk_below (bo BK419) hb); replace BK420 := Aside0.mk (blk_below (bo BK420) hb); replace HB := Aside0.mk (below_step (bl HB) hb); (try clear hb); (try clear hb2); (try clear hk); (try clear hi); (try clear ho0); (try clear ho1)) | ((with_reducible refine gate_dst (N := 7) rfl ?_); refine box_event ?hg (N := 7) ?hd (cs := #[.int .i64 0, .int .i64 0, .slice none 0 0, .slice none 0 0]) (t := 27) ?hr ?_; (case hd => rfl); (case hg => rfl); (case hr => first | (go_simp; done) | (go_simp; rfl)); intro gb439 hg w90 hbox hb; have BK439 := Aside0.mk (hbox); have GW439 := Aside0.mk ((by rw [hg]; exact (below_size (bl HB)) : w.heap.size ≤ gb439)); have GE439 := Aside0.mk ((by rw [hg]; exact (below_size (bl HB)) : w.heap.size ≤ gb439)); have NB418_439 := nb BK418 hg; have NB439_418 := bn BK418 hg; have NB419_439 := nb BK419 hg; have NB439_419 := bn BK419 hg; have NB420_439 := nb BK420 hg; have NB439_420 := bn BK420 hg; replace HO431 := ve HO431 hg hb; replace HO434 := ve HO434 hg hb; replace BK418 := Aside0.mk (blk_below (bo BK418) hb); replace BK419 := Aside0.mk (blk_below (bo BK419) hb); replace BK420 := Aside0.mk (blk_below (bo BK420) hb); replace HB := Aside0.mk (below_step (bl HB) hb); clear hb hbox hg) | ((with_reducible refine gate_dst (N := 8) rfl ?_); refine box_event ?hg (N := 8) ?hd (cs := #[.bool false, .int .i64 0, .int .i64 0, .int .i64 0]) (t := 32) ?hr ?_; (case hd => rfl); (case hg => rfl); (case hr => first | (go_simp; done) | (go_simp; rfl)); intro gb440 hg w91 hbox hb; have BK440 := Aside0.mk (hbox); have GW440 := Aside0.mk ((by rw [hg]; exact (below_size (bl HB)) : w.heap.size ≤ gb440)); have GE440 := Aside0.mk ((by rw [hg]; exact (below_size (bl HB)) : w.heap.size ≤ gb440)); have NB418_440 := nb BK418 hg; have NB440_418 := bn BK418 hg; have NB419_440 := nb BK419 hg; have NB440_419 := bn BK419 hg; have NB420_440 := nb BK420 hg; have NB440_420 := bn BK420 hg; have NB439_440 := nb BK439 hg; have NB440_439 := bn BK439 hg; replace HO431 := ve HO431 hg hb; replace HO434 := ve HO434 hg hb; replace BK418 := Aside0.mk (blk_below (bo BK418) hb); replace BK419 := Aside0.mk (blk_below (bo BK419) hb); replace BK420 := Aside0.mk (blk_below (bo BK420) hb); replace BK439 := Aside0.mk (blk_below (bo BK439) hb); replace HB := Aside0.mk (below_step (bl HB) hb); clear hb hbox hg; have hnb92 := NB439_418.out; have hnc92 := NB418_439.out; have hnb93 := NB439_419.out; have hnc93 := NB419_439.out; have hnb94 := NB439_420.out; have hnc94 := NB420_439.out; have hnb95 := NB439_440.out; have hnc95 := NB440_439.out; obtain ⟨hcz96_0, hcz96_1, hcz96_2, hcz96_3⟩ := ce4 BK439; obtain ⟨hfz96_0, hfz96_1, hfz96_2, hfz96_3⟩ := fr4 BK439; obtain ⟨Ao97, co97, eo97⟩ := Kd.V_slice HO431.out; subst eo97; obtain ⟨Ao98, co98, eo98⟩ := Kd.V_slice HO434.out; subst eo98) | ((with_reducible refine gate_store (t := 27) (p := 7) rfl ?_); refine store_event (t := 27) (p := 7) (v := ?vo_w99) (w1 := ((((w91.setCell ⟨gb439, 0, none⟩ (.int .i64 t427)).setCell ⟨gb439, 1, none⟩ (.int .i64 t428)).setCell ⟨gb439, 2, none⟩ (.slice Ao97 t429.length co97)).setCell ⟨gb439, 3, none⟩ (.slice Ao98 t432.length co98))) ?hg ?ho ?hn ?hr ?_; (case ho => rfl); (case hg => rfl); (case hn => rfl); (case hr => first | (go_simp; done) | (go_simp; rfl)); intro w99 hw; replace HO431 : Aside0 (Kd.V (Kd.int .i64) 3 w99 w.heap.size (fun k_ => k_ ≠ gb418 ∧ k_ ≠ gb419 ∧ k_ ≠ gb420 ∧ k_ ≠ gb439 ∧ k_ ≠ gb440) (.slice Ao97 t429.length co97) t429) := ⟨(by rw [hw]; exact (by (with_reducible repeat (first | apply Kd.V_alloc | apply Kd.V_drewN | apply Kd.V_drew)); exact Kd.V_mono (Kd.V_far (p := ⟨gb439, 3, none⟩) (Kd.V_far (p := ⟨gb439, 2, none⟩) (Kd.V_far (p := ⟨gb439, 1, none⟩) (Kd.V_far (p := ⟨gb439, 0, none⟩) (Kd.V_mono HO431.out (fun k_ hk => (⟨hk, hk.1.2⟩ : _ ∧ k_ ≠ gb439))) (fun _ hk => hk.2) (.int .i64 t427)) (fun _ hk => hk.2) (.int .i64 t428)) (fun _ hk => hk.2) (.slice Ao97 t429.length co97)) (fun _ hk => hk.2) (.slice Ao98 t432.length co98)) (fun _ hk => ⟨hk.1.1.1.1, ⟨hk.1.1.1.2.1, ⟨hk.1.1.1.2.2, ⟨hk.1.1.2, hk.1.2⟩⟩⟩⟩)))⟩; replace HO434 : Aside0 (Kd.V k53 53 w99 w.heap.size (fun k_ => k_ ≠ gb418 ∧ k_ ≠ gb419 ∧ k_ ≠ gb420 ∧ k_ ≠ gb439 ∧ k_ ≠ gb440) (.slice Ao98 t432.length co98) t432) := ⟨(by rw [hw]; exact (by (with_reducible repeat (first | apply Kd.V_alloc | apply Kd.V_drewN | apply Kd.V_drew)); exact Kd.V_mono (Kd.V_far (p := ⟨gb439, 3, none⟩) (Kd.V_far (p := ⟨gb439, 2, none⟩) (Kd.V_far (p := ⟨gb439, 1, none⟩) (Kd.V_far (p := ⟨gb439, 0, none⟩) (Kd.V_mono HO434.out (fun k_ hk => (⟨hk, hk.1.2⟩ : _ ∧ k_ ≠ gb439))) (fun _ hk => hk.2) (.int .i64 t427)) (fun _ hk => hk.2) (.int .i64 t428)) (fun _ hk => hk.2) (.slice Ao97 t429.length co97)) (fun _ hk => hk.2) (.slice Ao98 t432.length co98)) (fun _ hk => ⟨hk.1.1.1.1, ⟨hk.1.1.1.2.1, ⟨hk.1.1.1.2.2, ⟨hk.1.1.2, hk.1.2⟩⟩⟩⟩)))⟩; replace BK418 : Aside0 (w99.heap[gb418]? = some (.cells #[.int .i64 a0_0, .int .i64 a0_1, .int .i64 a0_2, .int .i64 a0_3] 23 (0, 0))) := ⟨(by rw [hw]; exact (by (with_reducible repeat (first | refine blk_drewN ?_ _ | refine blk_drew ?_ | refine blk_alloc ?_ _)); refine blk_far ?_ NB418_439.out _; (with_reducible repeat (first | refine blk_drewN ?_ _ | refine blk_drew ?_ | refine blk_alloc ?_ _)); refine blk_far ?_ NB418_439.out _; (with_reducible repeat (first | refine blk_drewN ?_ _ | refine blk_drew ?_ | refine blk_alloc ?_ _)); refine blk_far ?_ NB418_439.out _; (with_reducible repeat (first | refine blk_drewN ?_ _ | refine blk_drew ?_ | refine blk_alloc ?_ _)); refine blk_far ?_ NB418_439.out _; (with_reducible repeat (first | refine blk_drewN ?_ _ | refine blk_drew ?_ | refine blk_alloc ?_ _)); exact BK418.out))⟩; replace BK419 : Aside0 (w99.heap[gb419]? = some (.cells #[.int .i64 a1_0, .int .i64 a1_1, .slice A1_2 l1_2.length c1_2, .slice A1_3 l1_3.length c1_3] 27 (0, 0))) := ⟨(by rw [hw]; exact (by (with_reducible repeat (first | refine blk_drewN ?_ _ | refine blk_drew ?_ | refine blk_alloc ?_ _)); refine blk_far ?_ NB419_439.out _; (with_reducible repeat (first | refine blk_drewN ?_ _ | refine blk_drew ?_ | refine blk_alloc ?_ _)); refine blk_far ?_ NB419_439.out _; (with_reducible repeat (first | refine blk_drewN ?_ _ | refine blk_drew ?_ | refine blk_alloc ?_ _)); refine blk_far ?_ NB419_439.out _; (with_reducible repeat (first | refine blk_drewN ?_ _ | refine blk_drew ?_ | refine blk_alloc ?_ _)); refine blk_far ?_ NB419_439.out _; (with_reducible repeat (first | refine blk_drewN ?_ _ | refine blk_drew ?_ | refine blk_alloc ?_ _)); exact BK419.out))⟩; replace BK420 : Aside0 (w99.heap[gb420]? = some (.cells #[.int .i64 a2_0, .int .i64 a2_1, .int .i64 a2_2] 47 (0, 0))) := ⟨(by rw [hw]; exact (by (with_reducible repeat (first | refine blk_drewN ?_ _ | refine blk_drew ?_ | refine blk_alloc ?_ _)); refine blk_far ?_ NB420_439.out _; (with_reducible repeat (first | refine blk_drewN ?_ _ | refine blk_drew ?_ | refine blk_alloc ?_ _)); refine blk_far ?_ NB420_439.out _; (with_reducible repeat (first | refine blk_drewN ?_ _ | refine blk_drew ?_ | refine blk_alloc ?_ _)); refine blk_far ?_ NB420_439.out _; (with_reducible repeat (first | refine blk_drewN ?_ _ | refine blk_drew ?_ | refine blk_alloc ?_ _)); refine blk_far ?_ NB420_439.out _; (with_reducible repeat (first | refine blk_drewN ?_ _ | refine blk_drew ?_ | refine blk_alloc ?_ _)); exact BK420.out))⟩; replace BK439 : Aside0 (w99.heap[gb439]? = some (.cells #[.int .i64 t427, .int .i64 t428, .slice Ao97 t429.length co97, .slice Ao98 t432.length co98] 27 (0, 0))) := ⟨(by rw [hw]; exact (by (with_reducible repeat (first | refine blk_drewN ?_ _ | refine blk_drew ?_ | refine blk_alloc ?_ _)); refine blk_put (cs := #[.int .i64 t427, .int .i64 t428, .slice Ao97 t429.length co97, .slice none 0 0]) ?_ 3 _ rfl; (with_reducible repeat (first | refine blk_drewN ?_ _ | refine blk_drew ?_ | refine blk_alloc ?_ _)); refine blk_put (cs := #[.int .i64 t427, .int .i64 t428, .slice none 0 0, .slice none 0 0]) ?_ 2 _ rfl; (with_reducible repeat (first | refine blk_drewN ?_ _ | refine blk_drew ?_ | refine blk_alloc ?_ _)); refine blk_put (cs := #[.int .i64 t427, .int .i64 0, .slice none 0 0, .slice none 0 0]) ?_ 1 _ rfl; (with_reducible repeat (first | refine blk_drewN ?_ _ | refine blk_drew ?_ | refine blk_alloc ?_ _)); refine blk_put (cs := #[.int .i64 0, .int .i64 0, .slice none 0 0, .slice none 0 0]) ?_ 0 _ rfl; (with_reducible repeat (first | refine blk_drewN ?_ _ | refine blk_drew ?_ | refine blk_alloc ?_ _)); exact BK439.out))⟩; replace BK440 : Aside0 (w99.heap[gb440]? = some (.cells #[.bool false, .int .i64 0, .int .i64 0, .int .i64 0] 32 (0, 0))) := ⟨(by rw [hw]; exact (by (with_reducible repeat (first | refine blk_drewN ?_ _ | refine blk_drew ?_ | refine blk_alloc ?_ _)); refine blk_far ?_ NB440_439.out _; (with_reducible repeat (first | refine blk_drewN ?_ _ | refine blk_drew ?_ | refine blk_alloc ?_ _)); refine blk_far ?_ NB440_439.out _; (with_reducible repeat (first | refine blk_drewN ?_ _ | refine blk_drew ?_ | refine blk_alloc ?_ _)); refine blk_far ?_ NB440_439.out _; (with_reducible repeat (first | refine blk_drewN ?_ _ | refine blk_drew ?_ | refine blk_alloc ?_ _)); refine blk_far ?_ NB440_439.out _; (with_reducible repeat (first | refine blk_drewN ?_ _ | refine blk_drew ?_ | refine blk_alloc ?_ _)); exact BK440.out))⟩; replace HB : Aside0 (Below w.heap.size w w99) := ⟨(by rw [hw]; exact (bl HB))⟩; clear hw; have hnb100 := NB440_418.out; have hnc100 := NB418_440.out; have hnb101 := NB440_419.out; have hnc101 := NB419_440.out; have hnb102 := NB440_420.out; have hnc102 := NB420_440.out; obtain ⟨hcz103_0, hcz103_1, hcz103_2, hcz103_3⟩ := ce4 BK440; obtain ⟨hfz103_0, hfz103_1, hfz103_2, hfz103_3⟩ := fr4 BK440) | ((with_reducible refine gate_store (t := 32) (p := 8) rfl ?_); refine store_event (t := 32) (p := 8) (v := ?vo_w104) (w1 := ((((w99.setCell ⟨gb440, 0, none⟩ (.bool t435)).setCell ⟨gb440, 1, none⟩ (.int .i64 t436)).setCell ⟨gb440, 2, none⟩ (.int .i64 t437)).setCell ⟨gb440, 3, none⟩ (.int .i64 t438))) ?hg ?ho ?hn ?hr ?_; (case ho => rfl); (case hg => rfl); (case hn => rfl); (case hr => first | (go_simp; done) | (go_simp; rfl)); intro w104 hw; replace HO431 : Aside0 (Kd.V (Kd.int .i64) 3 w104 w.heap.size (fun k_ => k_ ≠ gb418 ∧ k_ ≠ gb419 ∧ k_ ≠ gb420 ∧ k_ ≠ gb439 ∧ k_ ≠ gb440) (.slice Ao97 t429.length co97) t429) := ⟨(by rw [hw]; exact (by (with_reducible repeat (first | apply Kd.V_alloc | apply Kd.V_drewN | apply Kd.V_drew)); exact Kd.V_mono (Kd.V_far (p := ⟨gb440, 3, none⟩) (Kd.V_far (p := ⟨gb440, 2, none⟩) (Kd.V_far (p := ⟨gb440, 1, none⟩) (Kd.V_far (p := ⟨gb440, 0, none⟩) (Kd.V_mono HO431.out (fun k_ hk => (⟨hk, hk.2.2.2.2⟩ : _ ∧ k_ ≠ gb440))) (fun _ hk => hk.2) (.bool t435)) (fun _ hk => hk.2) (.int .i64 t436)) (fun _ hk => hk.2) (.int .i64 t437)) (fun _ hk => hk.2) (.int .i64 t438)) (fun _ hk => ⟨hk.1.1, ⟨hk.1.2.1, ⟨hk.1.2.2.1, ⟨hk.1.2.2.2.1, hk.1.2.2.2.2⟩⟩⟩⟩)))⟩; replace HO434 : Aside0 (Kd.V k53 53 w104 w.heap.size (fun k_ => k_ ≠ gb418 ∧ k_ ≠ gb419 ∧ k_ ≠ gb420 ∧ k_ ≠ gb439 ∧ k_ ≠ gb440) (.slice Ao98 t432.length co98) t432) := ⟨(by rw [hw]; exact (by (with_reducible repeat (first | apply Kd.V_alloc | apply Kd.V_drewN | apply Kd.V_drew)); exact Kd.V_mono (Kd.V_far (p := ⟨gb440, 3, none⟩) (Kd.V_far (p := ⟨gb440, 2, none⟩) (Kd.V_far (p := ⟨gb440, 1, none⟩) (Kd.V_far (p := ⟨gb440, 0, none⟩) (Kd.V_mono HO434.out (fun k_ hk => (⟨hk, hk.2.2.2.2⟩ : _ ∧ k_ ≠ gb440))) (fun _ hk => hk.2) (.bool t435)) (fun _ hk => hk.2) (.int .i64 t436)) (fun _ hk => hk.2) (.int .i64 t437)) (fun _ hk => hk.2) (.int .i64 t438)) (fun _ hk => ⟨hk.1.1, ⟨hk.1.2.1, ⟨hk.1.2.2.1, ⟨hk.1.2.2.2.1, hk.1.2.2.2.2⟩⟩⟩⟩)))⟩; replace BK418 : Aside0 (w104.heap[gb418]? = some (.cells #[.int .i64 a0_0, .int .i64 a0_1, .int .i64 a0_2, .int .i64 a0_3] 23 (0, 0))) := ⟨(by rw [hw]; exact (by (with_reducible repeat (first | refine blk_drewN ?_ _ | refine blk_drew ?_ | refine blk_alloc ?_ _)); refine blk_far ?_ NB418_440.out _; (with_reducible repeat (first | refine blk_drewN ?_ _ | refine blk_drew ?_ | refine blk_alloc ?_ _)); refine blk_far ?_ NB418_440.out _; (with_reducible repeat (first | refine blk_drewN ?_ _ | refine blk_drew ?_ | refine blk_alloc ?_ _)); refine blk_far ?_ NB418_440.out _; (with_reducible repeat (first | refine blk_drewN ?_ _ | refine blk_drew ?_ | refine blk_alloc ?_ _)); refine blk_far ?_ NB418_440.out _; (with_reducible repeat (first | refine blk_drewN ?_ _ | refine blk_drew ?_ | refine blk_alloc ?_ _)); exact BK418.out))⟩; replace BK419 : Aside0 (w104.heap[gb419]? = some (.cells #[.int .i64 a1_0, .int .i64 a1_1, .slice A1_2 l1_2.length c1_2, .slice A1_3 l1_3.length c1_3] 27 (0, 0))) := ⟨(by rw [hw]; exact (by (with_reducible repeat (first | refine blk_drewN ?_ _ | refine blk_drew ?_ | refine blk_alloc ?_ _)); refine blk_far ?_ NB419_440.out _; (with_reducible repeat (first | refine blk_drewN ?_ _ | refine blk_drew ?_ | refine blk_alloc ?_ _)); refine blk_far ?_ NB419_440.out _; (with_reducible repeat (first | refine blk_drewN ?_ _ | refine blk_drew ?_ | refine blk_alloc ?_ _)); refine blk_far ?_ NB419_440.out _; (with_reducible repeat (first | refine blk_drewN ?_ _ | refine blk_drew ?_ | refine blk_alloc ?_ _)); refine blk_far ?_ NB419_440.out _; (with_reducible repeat (first | refine blk_drewN ?_ _ | refine blk_drew ?_ | refine blk_alloc ?_ _)); exact BK419.out))⟩; replace BK420 : Aside0 (w104.heap[gb420]? = some (.cells #[.int .i64 a2_0, .int .i64 a2_1, .int .i64 a2_2] 47 (0, 0))) := ⟨(by rw [hw]; exact (by (with_reducible repeat (first | refine blk_drewN ?_ _ | refine blk_drew ?_ | refine blk_alloc ?_ _)); refine blk_far ?_ NB420_440.out _; (with_reducible repeat (first | refine blk_drewN ?_ _ | refine blk_drew ?_ | refine blk_alloc ?_ _)); refine blk_far ?_ NB420_440.out _; (with_reducible repeat (first | refine blk_drewN ?_ _ | refine blk_drew ?_ | refine blk_alloc ?_ _)); refine blk_far ?_ NB420_440.out _; (with_reducible repeat (first | refine blk_drewN ?_ _ | refine blk_drew ?_ | refine blk_alloc ?_ _)); refine blk_far ?_ NB420_440.out _; (with_reducible repeat (first | refine blk_drewN ?_ _ | refine blk_drew ?_ | refine blk_alloc ?_ _)); exact BK420.out))⟩; replace BK439 : Aside0 (w104.heap[gb439]? = some (.cells #[.int .i64 t427, .int .i64 t428, .slice Ao97 t429.length co97, .slice Ao98 t432.length co98] 27 (0, 0))) := ⟨(by rw [hw]; exact (by (with_reducible repeat (first | refine blk_drewN ?_ _ | refine blk_drew ?_ | refine blk_alloc ?_ _)); refine blk_far ?_ NB439_440.out _; (with_reducible repeat (first | refine blk_drewN ?_ _ | refine blk_drew ?_ | refine blk_alloc ?_ _)); refine blk_far ?_ NB439_440.out _; (with_reducible repeat (first | refine blk_drewN ?_ _ | refine blk_drew ?_ | refine blk_alloc ?_ _)); refine blk_far ?_ NB439_440.out _; (with_reducible repeat (first | refine blk_drewN ?_ _ | refine blk_drew ?_ | refine blk_alloc ?_ _)); refine blk_far ?_ NB439_440.out _; (with_reducible repeat (first | refine blk_drewN ?_ _ | refine blk_drew ?_ | refine blk_alloc ?_ _)); exact BK439.out))⟩; replace BK440 : Aside0 (w104.heap[gb440]? = some (.cells #[.bool t435, .int .i64 t436, .int .i64 t437, .int .i64 t438] 32 (0, 0))) := ⟨(by rw [hw]; exact (by (with_reducible repeat (first | refine blk_drewN ?_ _ | refine blk_drew ?_ | refine blk_alloc ?_ _)); refine blk_put (cs := #[.bool t435, .int .i64 t436, .int .i64 t437, .int .i64 0]) ?_ 3 _ rfl; (with_reducible repeat (first | refine blk_drewN ?_ _ | refine blk_drew ?_ | refine blk_alloc ?_ _)); refine blk_put (cs := #[.bool t435, .int .i64 t436, .int .i64 0, .int .i64 0]) ?_ 2 _ rfl; (with_reducible repeat (first | refine blk_drewN ?_ _ | refine blk_drew ?_ | refine blk_alloc ?_ _)); refine blk_put (cs := #[.bool t435, .int .i64 0, .int .i64 0, .int .i64 0]) ?_ 1 _ rfl; (with_reducible repeat (first | refine blk_drewN ?_ _ | refine blk_drew ?_ | refine blk_alloc ?_ _)); refine blk_put (cs := #[.bool false, .int .i64 0, .int .i64 0, .int .i64 0]) ?_ 0 _ rfl; (with_reducible repeat (first | refine blk_drewN ?_ _ | refine blk_drew ?_ | refine blk_alloc ?_ _)); exact BK440.out))⟩; replace HB : Aside0 (Below w.heap.size w w104) := ⟨(by rw [hw]; exact (bl HB))⟩; clear hw; obtain ⟨hcz105_0, hcz105_1, hcz105_2, hcz105_3⟩ := ce4 BK418; obtain ⟨hfz105_0, hfz105_1, hfz105_2, hfz105_3⟩ := fr4 BK418; obtain ⟨hcz106_0, hcz106_1, hcz106_2, hcz106_3⟩ := ce4 BK439; obtain ⟨hfz106_0, hfz106_1, hfz106_2, hfz106_3⟩ := fr4 BK439; obtain ⟨hcz107_0, hcz107_1, hcz107_2⟩ := ce3 BK420; obtain ⟨hfz107_0, hfz107_1, hfz107_2⟩ := fr3 BK420) | ((with_reducible refine gate_callee (f := 10) rfl ?_); refine goesL_ (some 72) rfl rfl Try.func10 (by kernel_rfl) rfl #[.agg #[.int .i64 a0_0, .int .i64 a0_1, .int .i64 a0_2, .int .i64 a0_3], .agg #[.int .i64 t427, .int .i64 t428, .slice Ao97 t429.length co97, .slice Ao98 t432.length co98], .int .i64 a2_0, .int .i64 a2_2] rfl (by (try simp only [List.map_toArray, List.map_cons, List.map_nil]); first | done | rfl | (simp only [List.length_drop, List.length_take]; rfl)) ?_; (with_reducible refine (fixed_Ask.calls kj3 a0_0 a0_1 a0_2 a0_3 t427 t428 (fun k_ => (k_ ≠ gb418 ∧ (k_ ≠ gb419 ∧ (k_ ≠ gb420 ∧ (k_ ≠ gb439 ∧ k_ ≠ gb440))))) _ _ t429 (fun k_ => (k_ ≠ gb418 ∧ (k_ ≠ gb419 ∧ (k_ ≠ gb420 ∧ (k_ ≠ gb439 ∧ k_ ≠ gb440))))) _ _ t432 a2_0 a2_2 t441 t442 t443 t446 t449 t450 t451 t452 _ ?side1 ?side2 A80.out).mono ?_); (case side1 => exact HO431.out); (case side2 => exact HO434.out); rintro e w108 ⟨v444, v447, rfl, ho0, ho1, hb⟩; refine ⟨_, rfl, ?_⟩; have HO445 := Aside0.mk (Kd.V_lower (Kd.V_mono (ok' := fun k_ => k_ ≠ gb418 ∧ k_ ≠ gb419 ∧ k_ ≠ gb420 ∧ k_ ≠ gb439 ∧ k_ ≠ gb440) ho0 (fun k_ hk_ => ⟨Or.elim hk_ (fun hs_ => Or.elim hs_ (fun hs_ => hs_.1) (fun hs_ => hs_.1)) (fun hn_ => (Kd.freshB (bo BK418) k_ hn_)), Or.elim hk_ (fun hs_ => Or.elim hs_ (fun hs_ => hs_.2.1) (fun hs_ => hs_.2.1)) (fun hn_ => (Kd.freshB (bo BK419) k_ hn_)), Or.elim hk_ (fun hs_ => Or.elim hs_ (fun hs_ => hs_.2.2.1) (fun hs_ => hs_.2.2.1)) (fun hn_ => (Kd.freshB (bo BK420) k_ hn_)), Or.elim hk_ (fun hs_ => Or.elim hs_ (fun hs_ => hs_.2.2.2.1) (fun hs_ => hs_.2.2.2.1)) (fun hn_ => (Kd.freshB (bo BK439) k_ hn_)), Or.elim hk_ (fun hs_ => Or.elim hs_ (fun hs_ => hs_.2.2.2.2) (fun hs_ => hs_.2.2.2.2)) (fun hn_ => (Kd.freshB (bo BK440) k_ hn_))⟩)) (below_size (bl HB))); have HO448 := Aside0.mk (Kd.V_lower (Kd.V_mono (ok' := fun k_ => k_ ≠ gb418 ∧ k_ ≠ gb419 ∧ k_ ≠ gb420 ∧ k_ ≠ gb439 ∧ k_ ≠ gb440) ho1 (fun k_ hk_ => ⟨Or.elim hk_ (fun hs_ => Or.elim hs_ (fun hs_ => hs_.1) (fun hs_ => hs_.1)) (fun hn_ => (Kd.freshB (bo BK418) k_ hn_)), Or.elim hk_ (fun hs_ => Or.elim hs_ (fun hs_ => hs_.2.1) (fun hs_ => hs_.2.1)) (fun hn_ => (Kd.freshB (bo BK419) k_ hn_)), Or.elim hk_ (fun hs_ => Or.elim hs_ (fun hs_ => hs_.2.2.1) (fun hs_ => hs_.2.2.1)) (fun hn_ => (Kd.freshB (bo BK420) k_ hn_)), Or.elim hk_ (fun hs_ => Or.elim hs_ (fun hs_ => hs_.2.2.2.1) (fun hs_ => hs_.2.2.2.1)) (fun hn_ => (Kd.freshB (bo BK439) k_ hn_)), Or.elim hk_ (fun hs_ => Or.elim hs_ (fun hs_ => hs_.2.2.2.2) (fun hs_ => hs_.2.2.2.2)) (fun hn_ => (Kd.freshB (bo BK440) k_ hn_))⟩)) (below_size (bl HB))); replace HO431 := vb HO431 hb; replace HO434 := vb HO434 hb; replace BK418 := Aside0.mk (blk_below (bo BK418) hb); replace BK419 := Aside0.mk (blk_below (bo BK419) hb); replace BK420 := Aside0.mk (blk_below (bo BK420) hb); replace BK439 := Aside0.mk (blk_below (bo BK439) hb); replace BK440 := Aside0.mk (blk_below (bo BK440) hb); replace HB := Aside0.mk (below_step (bl HB) hb); (try clear hb); (try clear hb2); (try clear hk); (try clear hi); (try clear ho0); (try clear ho1)) | ((with_reducible refine gate_dst (N := 9) rfl ?_); refine box_event ?hg (N := 9) ?hd (cs := #[.int .i64 0, .int .i64 0, .slice none 0 0, .slice none 0 0]) (t := 27) ?hr ?_; (case hd => rfl); (case hg => rfl); (case hr => first | (go_simp; done) | (go_simp; rfl)); intro gb453 hg w109 hbox hb; have BK453 := Aside0.mk (hbox); have GW453 := Aside0.mk ((by rw [hg]; exact (below_size (bl HB)) : w.heap.size ≤ gb453)); have GE453 := Aside0.mk ((by rw [hg]; exact (below_size (bl HB)) : w.heap.size ≤ gb453)); have NB418_453 := nb BK418 hg; have NB453_418 := bn BK418 hg; have NB419_453 := nb BK419 hg; have NB453_419 := bn BK419 hg; have NB420_453 := nb BK420 hg; have NB453_420 := bn BK420 hg; have NB439_453 := nb BK439 hg; have NB453_439 := bn BK439 hg; have NB440_453 := nb BK440 hg; have NB453_440 := bn BK440 hg; replace HO431 := ve HO431 hg hb; replace HO434 := ve HO434 hg hb; replace HO445 := ve HO445 hg hb; replace HO448 := ve HO448 hg hb; replace BK418 := Aside0.mk (blk_below (bo BK418) hb); replace BK419 := Aside0.mk (blk_below (bo BK419) hb); replace BK420 := Aside0.mk (blk_below (bo BK420) hb); replace BK439 := Aside0.mk (blk_below (bo BK439) hb); replace BK440 := Aside0.mk (blk_below (bo BK440) hb); replace HB := Aside0.mk (below_step (bl HB) hb); clear hb hbox hg) | ((with_reducible refine gate_dst (N := 10) rfl ?_); refine box_event ?hg (N := 10) ?hd (cs := #[.bool false, .int .i64 0, .int .i64 0, .int .i64 0]) (t := 32) ?hr ?_; (case hd => rfl); (case hg => rfl); (case hr => first | (go_simp; done) | (go_simp; rfl)); intro gb454 hg w110 hbox hb; have BK454 := Aside0.mk (hbox); have GW454 := Aside0.mk ((by rw [hg]; exact (below_size (bl HB)) : w.heap.size ≤ gb454)); have GE454 := Aside0.mk ((by rw [hg]; exact (below_size (bl HB)) : w.heap.size ≤ gb454)); have NB418_454 := nb BK418 hg; have NB454_418 := bn BK418 hg; have NB419_454 := nb BK419 hg; have NB454_419 := bn BK419 hg; have NB420_454 := nb BK420 hg; have NB454_420 := bn BK420 hg; have NB439_454 := nb BK439 hg; have NB454_439 := bn BK439 hg; have NB440_454 := nb BK440 hg; have NB454_440 := bn BK440 hg; have NB453_454 := nb BK453 hg; have NB454_453 := bn BK453 hg; replace HO431 := ve HO431 hg hb; replace HO434 := ve HO434 hg hb; replace HO445 := ve HO445 hg hb; replace HO448 := ve HO448 hg hb; replace BK418 := Aside0.mk (blk_below (bo BK418) hb); replace BK419 := Aside0.mk (blk_below (bo BK419) hb); replace BK420 := Aside0.mk (blk_below (bo BK420) hb); replace BK439 := Aside0.mk (blk_below (bo BK439) hb); replace BK440 := Aside0.mk (blk_below (bo BK440) hb); replace BK453 := Aside0.mk (blk_below (bo BK453) hb); replace HB := Aside0.mk (below_step (bl HB) hb); clear hb hbox hg; have hnb111 := NB453_418.out; have hnc111 := NB418_453.out; have hnb112 := NB453_419.out; have hnc112 := NB419_453.out; have hnb113 := NB453_420.out; have hnc113 := NB420_453.out; have hnb114 := NB453_439.out; have hnc114 := NB439_453.out; have hnb115 := NB453_440.out; have hnc115 := NB440_453.out; have hnb116 := NB453_454.out; have hnc116 := NB454_453.out; obtain ⟨hcz117_0, hcz117_1, hcz117_2, hcz117_3⟩ := ce4 BK453; obtain ⟨hfz117_0, hfz117_1, hfz117_2, hfz117_3⟩ := fr4 BK453; obtain ⟨Ao118, co118, eo118⟩ := Kd.V_slice HO445.out; subst eo118; obtain ⟨Ao119, co119, eo119⟩ := Kd.V_slice HO448.out; subst eo119) | ((with_reducible refine gate_store (t := 27) (p := 9) rfl ?_); refine store_event (t := 27) (p := 9) (v := ?vo_w120) (w1 := ((((w110.setCell ⟨gb453, 0, none⟩ (.int .i64 t441)).setCell ⟨gb453, 1, none⟩ (.int .i64 t442)).setCell ⟨gb453, 2, none⟩ (.slice Ao118 t443.length co118)).setCell ⟨gb453, 3, none⟩ (.slice Ao119 t446.length co119))) ?hg ?ho ?hn ?hr ?_; (case ho => rfl); (case hg => rfl); (case hn => rfl); (case hr => first | (go_simp; done) | (go_simp; rfl)); intro w120 hw; replace HO431 : Aside0 (Kd.V (Kd.int .i64) 3 w120 w.heap.size (fun k_ => k_ ≠ gb418 ∧ k_ ≠ gb419 ∧ k_ ≠ gb420 ∧ k_ ≠ gb439 ∧ k_ ≠ gb440 ∧ k_ ≠ gb453 ∧ k_ ≠ gb454) (.slice Ao97 t429.length co97) t429) := ⟨(by rw [hw]; exact (by (with_reducible repeat (first | apply Kd.V_alloc | apply Kd.V_drewN | apply Kd.V_drew)); exact Kd.V_mono (Kd.V_far (p := ⟨gb453, 3, none⟩) (Kd.V_far (p := ⟨gb453, 2, none⟩) (Kd.V_far (p := ⟨gb453, 1, none⟩) (Kd.V_far (p := ⟨gb453, 0, none⟩) (Kd.V_mono HO431.out (fun k_ hk => (⟨hk, hk.1.2⟩ : _ ∧ k_ ≠ gb453))) (fun _ hk => hk.2) (.int .i64 t441)) (fun _ hk => hk.2) (.int .i64 t442)) (fun _ hk => hk.2) (.slice Ao118 t443.length co118)) (fun _ hk => hk.2) (.slice Ao119 t446.length co119)) (fun _ hk => ⟨hk.1.1.1.1, ⟨hk.1.1.1.2.1, ⟨hk.1.1.1.2.2.1, ⟨hk.1.1.1.2.2.2.1, ⟨hk.1.1.1.2.2.2.2, ⟨hk.1.1.2, hk.1.2⟩⟩⟩⟩⟩⟩)))⟩; replace HO434 : Aside0 (Kd.V k53 53 w120 w.heap.size (fun k_ => k_ ≠ gb418 ∧ k_ ≠ gb419 ∧ k_ ≠ gb420 ∧ k_ ≠ gb439 ∧ k_ ≠ gb440 ∧ k_ ≠ gb453 ∧ k_ ≠ gb454) (.slice Ao98 t432.length co98) t432) := ⟨(by rw [hw]; exact (by (with_reducible repeat (first | apply Kd.V_alloc | apply Kd.V_drewN | apply Kd.V_drew)); exact Kd.V_mono (Kd.V_far (p := ⟨gb453, 3, none⟩) (Kd.V_far (p := ⟨gb453, 2, none⟩) (Kd.V_far (p := ⟨gb453, 1, none⟩) (Kd.V_far (p := ⟨gb453, 0, none⟩) (Kd.V_mono HO434.out (fun k_ hk => (⟨hk, hk.1.2⟩ : _ ∧ k_ ≠ gb453))) (fun _ hk => hk.2) (.int .i64 t441)) (fun _ hk => hk.2) (.int .i64 t442)) (fun _ hk => hk.2) (.slice Ao118 t443.length co118)) (fun _ hk => hk.2) (.slice Ao119 t446.length co119)) (fun _ hk => ⟨hk.1.1.1.1, ⟨hk.1.1.1.2.1, ⟨hk.1.1.1.2.2.1, ⟨hk.1.1.1.2.2.2.1, ⟨hk.1.1.1.2.2.2.2, ⟨hk.1.1.2, hk.1.2⟩⟩⟩⟩⟩⟩)))⟩; replace HO445 : Aside0 (Kd.V (Kd.int .i64) 3 w120 w.heap.size (fun k_ => k_ ≠ gb418 ∧ k_ ≠ gb419 ∧ k_ ≠ gb420 ∧ k_ ≠ gb439 ∧ k_ ≠ gb440 ∧ k_ ≠ gb453 ∧ k_ ≠ gb454) (.slice Ao118 t443.length co118) t443) := ⟨(by rw [hw]; exact (by (with_reducible repeat (first | apply Kd.V_alloc | apply Kd.V_drewN | apply Kd.V_drew)); exact Kd.V_mono (Kd.V_far (p := ⟨gb453, 3, none⟩) (Kd.V_far (p := ⟨gb453, 2, none⟩) (Kd.V_far (p := ⟨gb453, 1, none⟩) (Kd.V_far (p := ⟨gb453, 0, none⟩) (Kd.V_mono HO445.out (fun k_ hk => (⟨hk, hk.1.2⟩ : _ ∧ k_ ≠ gb453))) (fun _ hk => hk.2) (.int .i64 t441)) (fun _ hk => hk.2) (.int .i64 t442)) (fun _ hk => hk.2) (.slice Ao118 t443.length co118)) (fun _ hk => hk.2) (.slice Ao119 t446.length co119)) (fun _ hk => ⟨hk.1.1.1.1, ⟨hk.1.1.1.2.1, ⟨hk.1.1.1.2.2.1, ⟨hk.1.1.1.2.2.2.1, ⟨hk.1.1.1.2.2.2.2, ⟨hk.1.1.2, hk.1.2⟩⟩⟩⟩⟩⟩)))⟩; replace HO448 : Aside0 (Kd.V k53 53 w120 w.heap.size (fun k_ => k_ ≠ gb418 ∧ k_ ≠ gb419 ∧ k_ ≠ gb420 ∧ k_ ≠ gb439 ∧ k_ ≠ gb440 ∧ k_ ≠ gb453 ∧ k_ ≠ gb454) (.slice Ao119 t446.length co119) t446) := ⟨(by rw [hw]; exact (by (with_reducible repeat (first | apply Kd.V_alloc | apply Kd.V_drewN | apply Kd.V_drew)); exact Kd.V_mono (Kd.V_far (p := ⟨gb453, 3, none⟩) (Kd.V_far (p := ⟨gb453, 2, none⟩) (Kd.V_far (p := ⟨gb453, 1, none⟩) (Kd.V_far (p := ⟨gb453, 0, none⟩) (Kd.V_mono HO448.out (fun k_ hk => (⟨hk, hk.1.2⟩ : _ ∧ k_ ≠ gb453))) (fun _ hk => hk.2) (.int .i64 t441)) (fun _ hk => hk.2) (.int .i64 t442)) (fun _ hk => hk.2) (.slice Ao118 t443.length co118)) (fun _ hk => hk.2) (.slice Ao119 t446.length co119)) (fun _ hk => ⟨hk.1.1.1.1, ⟨hk.1.1.1.2.1, ⟨hk.1.1.1.2.2.1, ⟨hk.1.1.1.2.2.2.1, ⟨hk.1.1.1.2.2.2.2, ⟨hk.1.1.2, hk.1.2⟩⟩⟩⟩⟩⟩)))⟩; replace BK418 : Aside0 (w120.heap[gb418]? = some (.cells #[.int .i64 a0_0, .int .i64 a0_1, .int .i64 a0_2, .int .i64 a0_3] 23 (0, 0))) := ⟨(by rw [hw]; exact (by (with_reducible repeat (first | refine blk_drewN ?_ _ | refine blk_drew ?_ | refine blk_alloc ?_ _)); refine blk_far ?_ NB418_453.out _; (with_reducible repeat (first | refine blk_drewN ?_ _ | refine blk_drew ?_ | refine blk_alloc ?_ _)); refine blk_far ?_ NB418_453.out _; (with_reducible repeat (first | refine blk_drewN ?_ _ | refine blk_drew ?_ | refine blk_alloc ?_ _)); refine blk_far ?_ NB418_453.out _; (with_reducible repeat (first | refine blk_drewN ?_ _ | refine blk_drew ?_ | refine blk_alloc ?_ _)); refine blk_far ?_ NB418_453.out _; (with_reducible repeat (first | refine blk_drewN ?_ _ | refine blk_drew ?_ | refine blk_alloc ?_ _)); exact BK418.out))⟩; replace BK419 : Aside0 (w120.heap[gb419]? = some (.cells #[.int .i64 a1_0, .int .i64 a1_1, .slice A1_2 l1_2.length c1_2, .slice A1_3 l1_3.length c1_3] 27 (0, 0))) := ⟨(by rw [hw]; exact (by (with_reducible repeat (first | refine blk_drewN ?_ _ | refine blk_drew ?_ | refine blk_alloc ?_ _)); refine blk_far ?_ NB419_453.out _; (with_reducible repeat (first | refine blk_drewN ?_ _ | refine blk_drew ?_ | refine blk_alloc ?_ _)); refine blk_far ?_ NB419_453.out _; (with_reducible repeat (first | refine blk_drewN ?_ _ | refine blk_drew ?_ | refine blk_alloc ?_ _)); refine blk_far ?_ NB419_453.out _; (with_reducible repeat (first | refine blk_drewN ?_ _ | refine blk_drew ?_ | refine blk_alloc ?_ _)); refine blk_far ?_ NB419_453.out _; (with_reducible repeat (first | refine blk_drewN ?_ _ | refine blk_drew ?_ | refine blk_alloc ?_ _)); exact BK419.out))⟩; replace BK420 : Aside0 (w120.heap[gb420]? = some (.cells #[.int .i64 a2_0, .int .i64 a2_1, .int .i64 a2_2] 47 (0, 0))) := ⟨(by rw [hw]; exact (by (with_reducible repeat (first | refine blk_drewN ?_ _ | refine blk_drew ?_ | refine blk_alloc ?_ _)); refine blk_far ?_ NB420_453.out _; (with_reducible repeat (first | refine blk_drewN ?_ _ | refine blk_drew ?_ | refine blk_alloc ?_ _)); refine blk_far ?_ NB420_453.out _; (with_reducible repeat (first | refine blk_drewN ?_ _ | refine blk_drew ?_ | refine blk_alloc ?_ _)); refine blk_far ?_ NB420_453.out _; (with_reducible repeat (first | refine blk_drewN ?_ _ | refine blk_drew ?_ | refine blk_alloc ?_ _)); refine blk_far ?_ NB420_453.out _; (with_reducible repeat (first | refine blk_drewN ?_ _ | refine blk_drew ?_ | refine blk_alloc ?_ _)); exact BK420.out))⟩; replace BK439 : Aside0 (w120.heap[gb439]? = some (.cells #[.int .i64 t427, .int .i64 t428, .slice Ao97 t429.length co97, .slice Ao98 t432.length co98] 27 (0, 0))) := ⟨(by rw [hw]; exact (by (with_reducible repeat (first | refine blk_drewN ?_ _ | refine blk_drew ?_ | refine blk_alloc ?_ _)); refine blk_far ?_ NB439_453.out _; (with_reducible repeat (first | refine blk_drewN ?_ _ | refine blk_drew ?_ | refine blk_alloc ?_ _)); refine blk_far ?_ NB439_453.out _; (with_reducible repeat (first | refine blk_drewN ?_ _ | refine blk_drew ?_ | refine blk_alloc ?_ _)); refine blk_far ?_ NB439_453.out _; (with_reducible repeat (first | refine blk_drewN ?_ _ | refine blk_drew ?_ | refine blk_alloc ?_ _)); refine blk_far ?_ NB439_453.out _; (with_reducible repeat (first | refine blk_drewN ?_ _ | refine blk_drew ?_ | refine blk_alloc ?_ _)); exact BK439.out))⟩; replace BK440 : Aside0 (w120.heap[gb440]? = some (.cells #[.bool t435, .int .i64 t436, .int .i64 t437, .int .i64 t438] 32 (0, 0))) := ⟨(by rw [hw]; exact (by (with_reducible repeat (first | refine blk_drewN ?_ _ | refine blk_drew ?_ | refine blk_alloc ?_ _)); refine blk_far ?_ NB440_453.out _; (with_reducible repeat (first | refine blk_drewN ?_ _ | refine blk_drew ?_ | refine blk_alloc ?_ _)); refine blk_far ?_ NB440_453.out _; (with_reducible repeat (first | refine blk_drewN ?_ _ | refine blk_drew ?_ | refine blk_alloc ?_ _)); refine blk_far ?_ NB440_453.out _; (with_reducible repeat (first | refine blk_drewN ?_ _ | refine blk_drew ?_ | refine blk_alloc ?_ _)); refine blk_far ?_ NB440_453.out _; (with_reducible repeat (first | refine blk_drewN ?_ _ | refine blk_drew ?_ | refine blk_alloc ?_ _)); exact BK440.out))⟩; replace BK453 : Aside0 (w120.heap[gb453]? = some (.cells #[.int .i64 t441, .int .i64 t442, .slice Ao118 t443.length co118, .slice Ao119 t446.length co119] 27 (0, 0))) := ⟨(by rw [hw]; exact (by (with_reducible repeat (first | refine blk_drewN ?_ _ | refine blk_drew ?_ | refine blk_alloc ?_ _)); refine blk_put (cs := #[.int .i64 t441, .int .i64 t442, .slice Ao118 t443.length co118, .slice none 0 0]) ?_ 3 _ rfl; (with_reducible repeat (first | refine blk_drewN ?_ _ | refine blk_drew ?_ | refine blk_alloc ?_ _)); refine blk_put (cs := #[.int .i64 t441, .int .i64 t442, .slice none 0 0, .slice none 0 0]) ?_ 2 _ rfl; (with_reducible repeat (first | refine blk_drewN ?_ _ | refine blk_drew ?_ | refine blk_alloc ?_ _)); refine blk_put (cs := #[.int .i64 t441, .int .i64 0, .slice none 0 0, .slice none 0 0]) ?_ 1 _ rfl; (with_reducible repeat (first | refine blk_drewN ?_ _ | refine blk_drew ?_ | refine blk_alloc ?_ _)); refine blk_put (cs := #[.int .i64 0, .int .i64 0, .slice none 0 0, .slice none 0 0]) ?_ 0 _ rfl; (with_reducible repeat (first | refine blk_drewN ?_ _ | refine blk_drew ?_ | refine blk_alloc ?_ _)); exact BK453.out))⟩; replace BK454 : Aside0 (w120.heap[gb454]? = some (.cells #[.bool false, .int .i64 0, .int .i64 0, .int .i64 0] 32 (0, 0))) := ⟨(by rw [hw]; exact (by (with_reducible repeat (first | refine blk_drewN ?_ _ | refine blk_drew ?_ | refine blk_alloc ?_ _)); refine blk_far ?_ NB454_453.out _; (with_reducible repeat (first | refine blk_drewN ?_ _ | refine blk_drew ?_ | refine blk_alloc ?_ _)); refine blk_far ?_ NB454_453.out _; (with_reducible repeat (first | refine blk_drewN ?_ _ | refine blk_drew ?_ | refine blk_alloc ?_ _)); refine blk_far ?_ NB454_453.out _; (with_reducible repeat (first | refine blk_drewN ?_ _ | refine blk_drew ?_ | refine blk_alloc ?_ _)); refine blk_far ?_ NB454_453.out _; (with_reducible repeat (first | refine blk_drewN ?_ _ | refine blk_drew ?_ | refine blk_alloc ?_ _)); exact BK454.out))⟩; replace HB : Aside0 (Below w.heap.size w w120) := ⟨(by rw [hw]; exact (bl HB))⟩; clear hw; have hnb121 := NB454_418.out; have hnc121 := NB418_454.out; have hnb122 := NB454_419.out; have hnc122 := NB419_454.out; have hnb123 := NB454_420.out; have hnc123 := NB420_454.out; have hnb124 := NB454_439.out; have hnc124 := NB439_454.out; have hnb125 := NB454_440.out; have hnc125 := NB440_454.out; obtain ⟨hcz126_0, hcz126_1, hcz126_2, hcz126_3⟩ := ce4 BK454; obtain ⟨hfz126_0, hfz126_1, hfz126_2, hfz126_3⟩ := fr4 BK454) | ((with_reducible refine gate_store (t := 32) (p := 10) rfl ?_); refine store_event (t := 32) (p := 10) (v := ?vo_w127) (w1 := ((((w120.setCell ⟨gb454, 0, none⟩ (.bool t449)).setCell ⟨gb454, 1, none⟩ (.int .i64 t450)).setCell ⟨gb454, 2, none⟩ (.int .i64 t451)).setCell ⟨gb454, 3, none⟩ (.int .i64 t452))) ?hg ?ho ?hn ?hr ?_; (case ho => rfl); (case hg => rfl); (case hn => rfl); (case hr => first | (go_simp; done) | (go_simp; rfl)); intro w127 hw; replace HO431 : Aside0 (Kd.V (Kd.int .i64) 3 w127 w.heap.size (fun k_ => k_ ≠ gb418 ∧ k_ ≠ gb419 ∧ k_ ≠ gb420 ∧ k_ ≠ gb439 ∧ k_ ≠ gb440 ∧ k_ ≠ gb453 ∧ k_ ≠ gb454) (.slice Ao97 t429.length co97) t429) := ⟨(by rw [hw]; exact (by (with_reducible repeat (first | apply Kd.V_alloc | apply Kd.V_drewN | apply Kd.V_drew)); exact Kd.V_mono (Kd.V_far (p := ⟨gb454, 3, none⟩) (Kd.V_far (p := ⟨gb454, 2, none⟩) (Kd.V_far (p := ⟨gb454, 1, none⟩) (Kd.V_far (p := ⟨gb454, 0, none⟩) (Kd.V_mono HO431.out (fun k_ hk => (⟨hk, hk.2.2.2.2.2.2⟩ : _ ∧ k_ ≠ gb454))) (fun _ hk => hk.2) (.bool t449)) (fun _ hk => hk.2) (.int .i64 t450)) (fun _ hk => hk.2) (.int .i64 t451)) (fun _ hk => hk.2) (.int .i64 t452)) (fun _ hk => ⟨hk.1.1, ⟨hk.1.2.1, ⟨hk.1.2.2.1, ⟨hk.1.2.2.2.1, ⟨hk.1.2.2.2.2.1, ⟨hk.1.2.2.2.2.2.1, hk.1.2.2.2.2.2.2⟩⟩⟩⟩⟩⟩)))⟩; replace HO434 : Aside0 (Kd.V k53 53 w127 w.heap.size (fun k_ => k_ ≠ gb418 ∧ k_ ≠ gb419 ∧ k_ ≠ gb420 ∧ k_ ≠ gb439 ∧ k_ ≠ gb440 ∧ k_ ≠ gb453 ∧ k_ ≠ gb454) (.slice Ao98 t432.length co98) t432) := ⟨(by rw [hw]; exact (by (with_reducible repeat (first | apply Kd.V_alloc | apply Kd.V_drewN | apply Kd.V_drew)); exact Kd.V_mono (Kd.V_far (p := ⟨gb454, 3, none⟩) (Kd.V_far (p := ⟨gb454, 2, none⟩) (Kd.V_far (p := ⟨gb454, 1, none⟩) (Kd.V_far (p := ⟨gb454, 0, none⟩) (Kd.V_mono HO434.out (fun k_ hk => (⟨hk, hk.2.2.2.2.2.2⟩ : _ ∧ k_ ≠ gb454))) (fun _ hk => hk.2) (.bool t449)) (fun _ hk => hk.2) (.int .i64 t450)) (fun _ hk => hk.2) (.int .i64 t451)) (fun _ hk => hk.2) (.int .i64 t452)) (fun _ hk => ⟨hk.1.1, ⟨hk.1.2.1, ⟨hk.1.2.2.1, ⟨hk.1.2.2.2.1, ⟨hk.1.2.2.2.2.1, ⟨hk.1.2.2.2.2.2.1, hk.1.2.2.2.2.2.2⟩⟩⟩⟩⟩⟩)))⟩; replace HO445 : Aside0 (Kd.V (Kd.int .i64) 3 w127 w.heap.size (fun k_ => k_ ≠ gb418 ∧ k_ ≠ gb419 ∧ k_ ≠ gb420 ∧ k_ ≠ gb439 ∧ k_ ≠ gb440 ∧ k_ ≠ gb453 ∧ k_ ≠ gb454) (.slice Ao118 t443.length co118) t443) := ⟨(by rw [hw]; exact (by (with_reducible repeat (first | apply Kd.V_alloc | apply Kd.V_drewN | apply Kd.V_drew)); exact Kd.V_mono (Kd.V_far (p := ⟨gb454, 3, none⟩) (Kd.V_far (p := ⟨gb454, 2, none⟩) (Kd.V_far (p := ⟨gb454, 1, none⟩) (Kd.V_far (p := ⟨gb454, 0, none⟩) (Kd.V_mono HO445.out (fun k_ hk => (⟨hk, hk.2.2.2.2.2.2⟩ : _ ∧ k_ ≠ gb454))) (fun _ hk => hk.2) (.bool t449)) (fun _ hk => hk.2) (.int .i64 t450)) (fun _ hk => hk.2) (.int .i64 t451)) (fun _ hk => hk.2) (.int .i64 t452)) (fun _ hk => ⟨hk.1.1, ⟨hk.1.2.1, ⟨hk.1.2.2.1, ⟨hk.1.2.2.2.1, ⟨hk.1.2.2.2.2.1, ⟨hk.1.2.2.2.2.2.1, hk.1.2.2.2.2.2.2⟩⟩⟩⟩⟩⟩)))⟩; replace HO448 : Aside0 (Kd.V k53 53 w127 w.heap.size (fun k_ => k_ ≠ gb418 ∧ k_ ≠ gb419 ∧ k_ ≠ gb420 ∧ k_ ≠ gb439 ∧ k_ ≠ gb440 ∧ k_ ≠ gb453 ∧ k_ ≠ gb454) (.slice Ao119 t446.length co119) t446) := ⟨(by rw [hw]; exact (by (with_reducible repeat (first | apply Kd.V_alloc | apply Kd.V_drewN | apply Kd.V_drew)); exact Kd.V_mono (Kd.V_far (p := ⟨gb454, 3, none⟩) (Kd.V_far (p := ⟨gb454, 2, none⟩) (Kd.V_far (p := ⟨gb454, 1, none⟩) (Kd.V_far (p := ⟨gb454, 0, none⟩) (Kd.V_mono HO448.out (fun k_ hk => (⟨hk, hk.2.2.2.2.2.2⟩ : _ ∧ k_ ≠ gb454))) (fun _ hk => hk.2) (.bool t449)) (fun _ hk => hk.2) (.int .i64 t450)) (fun _ hk => hk.2) (.int .i64 t451)) (fun _ hk => hk.2) (.int .i64 t452)) (fun _ hk => ⟨hk.1.1, ⟨hk.1.2.1, ⟨hk.1.2.2.1, ⟨hk.1.2.2.2.1, ⟨hk.1.2.2.2.2.1, ⟨hk.1.2.2.2.2.2.1, hk.1.2.2.2.2.2.2⟩⟩⟩⟩⟩⟩)))⟩; replace BK418 : Aside0 (w127.heap[gb418]? = some (.cells #[.int .i64 a0_0, .int .i64 a0_1, .int .i64 a0_2, .int .i64 a0_3] 23 (0, 0))) := ⟨(by rw [hw]; exact (by (with_reducible repeat (first | refine blk_drewN ?_ _ | refine blk_drew ?_ | refine blk_alloc ?_ _)); refine blk_far ?_ NB418_454.out _; (with_reducible repeat (first | refine blk_drewN ?_ _ | refine blk_drew ?_ | refine blk_alloc ?_ _)); refine blk_far ?_ NB418_454.out _; (with_reducible repeat (first | refine blk_drewN ?_ _ | refine blk_drew ?_ | refine blk_alloc ?_ _)); refine blk_far ?_ NB418_454.out _; (with_reducible repeat (first | refine blk_drewN ?_ _ | refine blk_drew ?_ | refine blk_alloc ?_ _)); refine blk_far ?_ NB418_454.out _; (with_reducible repeat (first | refine blk_drewN ?_ _ | refine blk_drew ?_ | refine blk_alloc ?_ _)); exact BK418.out))⟩; replace BK419 : Aside0 (w127.heap[gb419]? = some (.cells #[.int .i64 a1_0, .int .i64 a1_1, .slice A1_2 l1_2.length c1_2, .slice A1_3 l1_3.length c1_3] 27 (0, 0))) := ⟨(by rw [hw]; exact (by (with_reducible repeat (first | refine blk_drewN ?_ _ | refine blk_drew ?_ | refine blk_alloc ?_ _)); refine blk_far ?_ NB419_454.out _; (with_reducible repeat (first | refine blk_drewN ?_ _ | refine blk_drew ?_ | refine blk_alloc ?_ _)); refine blk_far ?_ NB419_454.out _; (with_reducible repeat (first | refine blk_drewN ?_ _ | refine blk_drew ?_ | refine blk_alloc ?_ _)); refine blk_far ?_ NB419_454.out _; (with_reducible repeat (first | refine blk_drewN ?_ _ | refine blk_drew ?_ | refine blk_alloc ?_ _)); refine blk_far ?_ NB419_454.out _; (with_reducible repeat (first | refine blk_drewN ?_ _ | refine blk_drew ?_ | refine blk_alloc ?_ _)); exact BK419.out))⟩; replace BK420 : Aside0 (w127.heap[gb420]? = some (.cells #[.int .i64 a2_0, .int .i64 a2_1, .int .i64 a2_2] 47 (0, 0))) := ⟨(by rw [hw]; exact (by (with_reducible repeat (first | refine blk_drewN ?_ _ | refine blk_drew ?_ | refine blk_alloc ?_ _)); refine blk_far ?_ NB420_454.out _; (with_reducible repeat (first | refine blk_drewN ?_ _ | refine blk_drew ?_ | refine blk_alloc ?_ _)); refine blk_far ?_ NB420_454.out _; (with_reducible repeat (first | refine blk_drewN ?_ _ | refine blk_drew ?_ | refine blk_alloc ?_ _)); refine blk_far ?_ NB420_454.out _; (with_reducible repeat (first | refine blk_drewN ?_ _ | refine blk_drew ?_ | refine blk_alloc ?_ _)); refine blk_far ?_ NB420_454.out _; (with_reducible repeat (first | refine blk_drewN ?_ _ | refine blk_drew ?_ | refine blk_alloc ?_ _)); exact BK420.out))⟩; replace BK439 : Aside0 (w127.heap[gb439]? = some (.cells #[.int .i64 t427, .int .i64 t428, .slice Ao97 t429.length co97, .slice Ao98 t432.length co98] 27 (0, 0))) := ⟨(by rw [hw]; exact (by (with_reducible repeat (first | refine blk_drewN ?_ _ | refine blk_drew ?_ | refine blk_alloc ?_ _)); refine blk_far ?_ NB439_454.out _; (with_reducible repeat (first | refine blk_drewN ?_ _ | refine blk_drew ?_ | refine blk_alloc ?_ _)); refine blk_far ?_ NB439_454.out _; (with_reducible repeat (first | refine blk_drewN ?_ _ | refine blk_drew ?_ | refine blk_alloc ?_ _)); refine blk_far ?_ NB439_454.out _; (with_reducible repeat (first | refine blk_drewN ?_ _ | refine blk_drew ?_ | refine blk_alloc ?_ _)); refine blk_far ?_ NB439_454.out _; (with_reducible repeat (first | refine blk_drewN ?_ _ | refine blk_drew ?_ | refine blk_alloc ?_ _)); exact BK439.out))⟩; replace BK440 : Aside0 (w127.heap[gb440]? = some (.cells #[.bool t435, .int .i64 t436, .int .i64 t437, .int .i64 t438] 32 (0, 0))) := ⟨(by rw [hw]; exact (by (with_reducible repeat (first | refine blk_drewN ?_ _ | refine blk_drew ?_ | refine blk_alloc ?_ _)); refine blk_far ?_ NB440_454.out _; (with_reducible repeat (first | refine blk_drewN ?_ _ | refine blk_drew ?_ | refine blk_alloc ?_ _)); refine blk_far ?_ NB440_454.out _; (with_reducible repeat (first | refine blk_drewN ?_ _ | refine blk_drew ?_ | refine blk_alloc ?_ _)); refine blk_far ?_ NB440_454.out _; (with_reducible repeat (first | refine blk_drewN ?_ _ | refine blk_drew ?_ | refine blk_alloc ?_ _)); refine blk_far ?_ NB440_454.out _; (with_reducible repeat (first | refine blk_drewN ?_ _ | refine blk_drew ?_ | refine blk_alloc ?_ _)); exact BK440.out))⟩; replace BK453 : Aside0 (w127.heap[gb453]? = some (.cells #[.int .i64 t441, .int .i64 t442, .slice Ao118 t443.length co118, .slice Ao119 t446.length co119] 27 (0, 0))) := ⟨(by rw [hw]; exact (by (with_reducible repeat (first | refine blk_drewN ?_ _ | refine blk_drew ?_ | refine blk_alloc ?_ _)); refine blk_far ?_ NB453_454.out _; (with_reducible repeat (first | refine blk_drewN ?_ _ | refine blk_drew ?_ | refine blk_alloc ?_ _)); refine blk_far ?_ NB453_454.out _; (with_reducible repeat (first | refine blk_drewN ?_ _ | refine blk_drew ?_ | refine blk_alloc ?_ _)); refine blk_far ?_ NB453_454.out _; (with_reducible repeat (first | refine blk_drewN ?_ _ | refine blk_drew ?_ | refine blk_alloc ?_ _)); refine blk_far ?_ NB453_454.out _; (with_reducible repeat (first | refine blk_drewN ?_ _ | refine blk_drew ?_ | refine blk_alloc ?_ _)); exact BK453.out))⟩; replace BK454 : Aside0 (w127.heap[gb454]? = some (.cells #[.bool t449, .int .i64 t450, .int .i64 t451, .int .i64 t452] 32 (0, 0))) := ⟨(by rw [hw]; exact (by (with_reducible repeat (first | refine blk_drewN ?_ _ | refine blk_drew ?_ | refine blk_alloc ?_ _)); refine blk_put (cs := #[.bool t449, .int .i64 t450, .int .i64 t451, .int .i64 0]) ?_ 3 _ rfl; (with_reducible repeat (first | refine blk_drewN ?_ _ | refine blk_drew ?_ | refine blk_alloc ?_ _)); refine blk_put (cs := #[.bool t449, .int .i64 t450, .int .i64 0, .int .i64 0]) ?_ 2 _ rfl; (with_reducible repeat (first | refine blk_drewN ?_ _ | refine blk_drew ?_ | refine blk_alloc ?_ _)); refine blk_put (cs := #[.bool t449, .int .i64 0, .int .i64 0, .int .i64 0]) ?_ 1 _ rfl; (with_reducible repeat (first | refine blk_drewN ?_ _ | refine blk_drew ?_ | refine blk_alloc ?_ _)); refine blk_put (cs := #[.bool false, .int .i64 0, .int .i64 0, .int .i64 0]) ?_ 0 _ rfl; (with_reducible repeat (first | refine blk_drewN ?_ _ | refine blk_drew ?_ | refine blk_alloc ?_ _)); exact BK454.out))⟩; replace HB : Aside0 (Below w.heap.size w w127) := ⟨(by rw [hw]; exact (bl HB))⟩; clear hw; obtain ⟨hcz128_0, hcz128_1, hcz128_2, hcz128_3⟩ := ce4 BK418; obtain ⟨hfz128_0, hfz128_1, hfz128_2, hfz128_3⟩ := fr4 BK418; obtain ⟨hcz129_0, hcz129_1, hcz129_2, hcz129_3⟩ := ce4 BK419; obtain ⟨hfz129_0, hfz129_1, hfz129_2, hfz129_3⟩ := fr4 BK419; obtain ⟨hcz130_0, hcz130_1, hcz130_2⟩ := ce3 BK420; obtain ⟨hfz130_0, hfz130_1, hfz130_2⟩ := fr3 BK420) | ((with_reducible refine gate_callee (f := 10) rfl ?_); refine goesL_ (some 85) rfl rfl Try.func10 (by kernel_rfl) rfl #[.agg #[.int .i64 a0_0, .int .i64 a0_1, .int .i64 a0_2, .int .i64 a0_3], .agg #[.int .i64 a1_0, .int .i64 a1_1, .slice A1_2 l1_2.length c1_2, .slice A1_3 l1_3.length c1_3], .int .i64 a2_0, .int .i64 (wrap64 (a2_1 + a2_2))] rfl (by (try simp only [List.map_toArray, List.map_cons, List.map_nil]); first | done | rfl | (simp only [List.length_drop, List.length_take]; rfl)) ?_; (with_reducible refine (fixed_Ask.calls kj3 a0_0 a0_1 a0_2 a0_3 a1_0 a1_1 (fun k_ => k_ < w.heap.size) _ _ l1_2 (fun k_ => k_ < w.heap.size) _ _ l1_3 a2_0 (wrap64 (a2_1 + a2_2)) t455 t456 t457 t460 t463 t464 t465 t466 _ ?side1 ?side2 A81.out).mono ?_); (case side1 => exact Kd.V_mk HC1_2.out (Kd.F_below (Kd.C_F (Kd.heap_int .i64) HR1_2.out) (bl HB))); (case side2 => exact Kd.V_mk HC1_3.out (Kd.F_below (Kd.C_F k53_heap HR1_3.out) (bl HB))); rintro e w131 ⟨v458, v461, rfl, ho0, ho1, hb⟩; refine ⟨_, rfl, ?_⟩; have HO459 := Aside0.mk (Kd.V_lower (Kd.V_mono (ok' := fun k_ => k_ ≠ gb418 ∧ k_ ≠ gb419 ∧ k_ ≠ gb420 ∧ k_ ≠ gb439 ∧ k_ ≠ gb440 ∧ k_ ≠ gb453 ∧ k_ ≠ gb454) ho0 (fun k_ hk_ => ⟨Or.elim hk_ (fun hs_ => Or.elim hs_ (fun hs_ => fun e_ => Nat.not_le.2 hs_ (by rw [e_]; exact GW418.out)) (fun hs_ => fun e_ => Nat.not_le.2 hs_ (by rw [e_]; exact GW418.out))) (fun hn_ => (Kd.freshB (bo BK418) k_ hn_)), Or.elim hk_ (fun hs_ => Or.elim hs_ (fun hs_ => fun e_ => Nat.not_le.2 hs_ (by rw [e_]; exact GW419.out)) (fun hs_ => fun e_ => Nat.not_le.2 hs_ (by rw [e_]; exact GW419.out))) (fun hn_ => (Kd.freshB (bo BK419) k_ hn_)), Or.elim hk_ (fun hs_ => Or.elim hs_ (fun hs_ => fun e_ => Nat.not_le.2 hs_ (by rw [e_]; exact GW420.out)) (fun hs_ => fun e_ => Nat.not_le.2 hs_ (by rw [e_]; exact GW420.out))) (fun hn_ => (Kd.freshB (bo BK420) k_ hn_)), Or.elim hk_ (fun hs_ => Or.elim hs_ (fun hs_ => fun e_ => Nat.not_le.2 hs_ (by rw [e_]; exact GW439.out)) (fun hs_ => fun e_ => Nat.not_le.2 hs_ (by rw [e_]; exact GW439.out))) (fun hn_ => (Kd.freshB (bo BK439) k_ hn_)), Or.elim hk_ (fun hs_ => Or.elim hs_ (fun hs_ => fun e_ => Nat.not_le.2 hs_ (by rw [e_]; exact GW440.out)) (fun hs_ => fun e_ => Nat.not_le.2 hs_ (by rw [e_]; exact GW440.out))) (fun hn_ => (Kd.freshB (bo BK440) k_ hn_)), Or.elim hk_ (fun hs_ => Or.elim hs_ (fun hs_ => fun e_ => Nat.not_le.2 hs_ (by rw [e_]; exact GW453.out)) (fun hs_ => fun e_ => Nat.not_le.2 hs_ (by rw [e_]; exact GW453.out))) (fun hn_ => (Kd.freshB (bo BK453) k_ hn_)), Or.elim hk_ (fun hs_ => Or.elim hs_ (fun hs_ => fun e_ => Nat.not_le.2 hs_ (by rw [e_]; exact GW454.out)) (fun hs_ => fun e_ => Nat.not_le.2 hs_ (by rw [e_]; exact GW454.out))) (fun hn_ => (Kd.freshB (bo BK454) k_ hn_))⟩)) (below_size (bl HB))); have HO462 := Aside0.mk (Kd.V_lower (Kd.V_mono (ok' := fun k_ => k_ ≠ gb418 ∧ k_ ≠ gb419 ∧ k_ ≠ gb420 ∧ k_ ≠ gb439 ∧ k_ ≠ gb440 ∧ k_ ≠ gb453 ∧ k_ ≠ gb454) ho1 (fun k_ hk_ => ⟨Or.elim hk_ (fun hs_ => Or.elim hs_ (fun hs_ => fun e_ => Nat.not_le.2 hs_ (by rw [e_]; exact GW418.out)) (fun hs_ => fun e_ => Nat.not_le.2 hs_ (by rw [e_]; exact GW418.out))) (fun hn_ => (Kd.freshB (bo BK418) k_ hn_)), Or.elim hk_ (fun hs_ => Or.elim hs_ (fun hs_ => fun e_ => Nat.not_le.2 hs_ (by rw [e_]; exact GW419.out)) (fun hs_ => fun e_ => Nat.not_le.2 hs_ (by rw [e_]; exact GW419.out))) (fun hn_ => (Kd.freshB (bo BK419) k_ hn_)), Or.elim hk_ (fun hs_ => Or.elim hs_ (fun hs_ => fun e_ => Nat.not_le.2 hs_ (by rw [e_]; exact GW420.out)) (fun hs_ => fun e_ => Nat.not_le.2 hs_ (by rw [e_]; exact GW420.out))) (fun hn_ => (Kd.freshB (bo BK420) k_ hn_)), Or.elim hk_ (fun hs_ => Or.elim hs_ (fun hs_ => fun e_ => Nat.not_le.2 hs_ (by rw [e_]; exact GW439.out)) (fun hs_ => fun e_ => Nat.not_le.2 hs_ (by rw [e_]; exact GW439.out))) (fun hn_ => (Kd.freshB (bo BK439) k_ hn_)), Or.elim hk_ (fun hs_ => Or.elim hs_ (fun hs_ => fun e_ => Nat.not_le.2 hs_ (by rw [e_]; exact GW440.out)) (fun hs_ => fun e_ => Nat.not_le.2 hs_ (by rw [e_]; exact GW440.out))) (fun hn_ => (Kd.freshB (bo BK440) k_ hn_)), Or.elim hk_ (fun hs_ => Or.elim hs_ (fun hs_ => fun e_ => Nat.not_le.2 hs_ (by rw [e_]; exact GW453.out)) (fun hs_ => fun e_ => Nat.not_le.2 hs_ (by rw [e_]; exact GW453.out))) (fun hn_ => (Kd.freshB (bo BK453) k_ hn_)), Or.elim hk_ (fun hs_ => Or.elim hs_ (fun hs_ => fun e_ => Nat.not_le.2 hs_ (by rw [e_]; exact GW454.out)) (fun hs_ => fun e_ => Nat.not_le.2 hs_ (by rw [e_]; exact GW454.out))) (fun hn_ => (Kd.freshB (bo BK454) k_ hn_))⟩)) (below_size (bl HB))); replace HO431 := vb HO431 hb; replace HO434 := vb HO434 hb; replace HO445 := vb HO445 hb; replace HO448 := vb HO448 hb; replace BK418 := Aside0.mk (blk_below (bo BK418) hb); replace BK419 := Aside0.mk (blk_below (bo BK419) hb); replace BK420 := Aside0.mk (blk_below (bo BK420) hb); replace BK439 := Aside0.mk (blk_below (bo BK439) hb); replace BK440 := Aside0.mk (blk_below (bo BK440) hb); replace BK453 := Aside0.mk (blk_below (bo BK453) hb); replace BK454 := Aside0.mk (blk_below (bo BK454) hb); replace HB := Aside0.mk (below_step (bl HB) hb); (try clear hb); (try clear hb2); (try clear hk); (try clear hi); (try clear ho0); (try clear ho1)) | ((with_reducible refine gate_dst (N := 11) rfl ?_); refine box_event ?hg (N := 11) ?hd (cs := #[.int .i64 0, .int .i64 0, .slice none 0 0, .slice none 0 0]) (t := 27) ?hr ?_; (case hd => rfl); (case hg => rfl); (case hr => first | (go_simp; done) | (go_simp; rfl)); intro gb467 hg w132 hbox hb; have BK467 := Aside0.mk (hbox); have GW467 := Aside0.mk ((by rw [hg]; exact (below_size (bl HB)) : w.heap.size ≤ gb467)); have GE467 := Aside0.mk ((by rw [hg]; exact (below_size (bl HB)) : w.heap.size ≤ gb467)); have NB418_467 := nb BK418 hg; have NB467_418 := bn BK418 hg; have NB419_467 := nb BK419 hg; have NB467_419 := bn BK419 hg; have NB420_467 := nb BK420 hg; have NB467_420 := bn BK420 hg; have NB439_467 := nb BK439 hg; have NB467_439 := bn BK439 hg; have NB440_467 := nb BK440 hg; have NB467_440 := bn BK440 hg; have NB453_467 := nb BK453 hg; have NB467_453 := bn BK453 hg; have NB454_467 := nb BK454 hg; have NB467_454 := bn BK454 hg; replace HO431 := ve HO431 hg hb; replace HO434 := ve HO434 hg hb; replace HO445 := ve HO445 hg hb; replace HO448 := ve HO448 hg hb; replace HO459 := ve HO459 hg hb; replace HO462 := ve HO462 hg hb; replace BK418 := Aside0.mk (blk_below (bo BK418) hb); replace BK419 := Aside0.mk (blk_below (bo BK419) hb); replace BK420 := Aside0.mk (blk_below (bo BK420) hb); replace BK439 := Aside0.mk (blk_below (bo BK439) hb); replace BK440 := Aside0.mk (blk_below (bo BK440) hb); replace BK453 := Aside0.mk (blk_below (bo BK453) hb); replace BK454 := Aside0.mk (blk_below (bo BK454) hb); replace HB := Aside0.mk (below_step (bl HB) hb); clear hb hbox hg) | ((with_reducible refine gate_dst (N := 12) rfl ?_); refine box_event ?hg (N := 12) ?hd (cs := #[.bool false, .int .i64 0, .int .i64 0, .int .i64 0]) (t := 32) ?hr ?_; (case hd => rfl); (case hg => rfl); (case hr => first | (go_simp; done) | (go_simp; rfl)); intro gb468 hg w133 hbox hb; have BK468 := Aside0.mk (hbox); have GW468 := Aside0.mk ((by rw [hg]; exact (below_size (bl HB)) : w.heap.size ≤ gb468)); have GE468 := Aside0.mk ((by rw [hg]; exact (below_size (bl HB)) : w.heap.size ≤ gb468)); have NB418_468 := nb BK418 hg; have NB468_418 := bn BK418 hg; have NB419_468 := nb BK419 hg; have NB468_419 := bn BK419 hg; have NB420_468 := nb BK420 hg; have NB468_420 := bn BK420 hg; have NB439_468 := nb BK439 hg; have NB468_439 := bn BK439 hg; have NB440_468 := nb BK440 hg; have NB468_440 := bn BK440 hg; have NB453_468 := nb BK453 hg; have NB468_453 := bn BK453 hg; have NB454_468 := nb BK454 hg; have NB468_454 := bn BK454 hg; have NB467_468 := nb BK467 hg; have NB468_467 := bn BK467 hg; replace HO431 := ve HO431 hg hb; replace HO434 := ve HO434 hg hb; replace HO445 := ve HO445 hg hb; replace HO448 := ve HO448 hg hb; replace HO459 := ve HO459 hg hb; replace HO462 := ve HO462 hg hb; replace BK418 := Aside0.mk (blk_below (bo BK418) hb); replace BK419 := Aside0.mk (blk_below (bo BK419) hb); replace BK420 := Aside0.mk (blk_below (bo BK420) hb); replace BK439 := Aside0.mk (blk_below (bo BK439) hb); replace BK440 := Aside0.mk (blk_below (bo BK440) hb); replace BK453 := Aside0.mk (blk_below (bo BK453) hb); replace BK454 := Aside0.mk (blk_below (bo BK454) hb); replace BK467 := Aside0.mk (blk_below (bo BK467) hb); replace HB := Aside0.mk (below_step (bl HB) hb); clear hb hbox hg; have hnb134 := NB467_418.out; have hnc134 := NB418_467.out; have hnb135 := NB467_419.out; have hnc135 := NB419_467.out; have hnb136 := NB467_420.out; have hnc136 := NB420_467.out; have hnb137 := NB467_439.out; have hnc137 := NB439_467.out; have hnb138 := NB467_440.out; have hnc138 := NB440_467.out; have hnb139 := NB467_453.out; have hnc139 := NB453_467.out; have hnb140 := NB467_454.out; have hnc140 := NB454_467.out; have hnb141 := NB467_468.out; have hnc141 := NB468_467.out; obtain ⟨hcz142_0, hcz142_1, hcz142_2, hcz142_3⟩ := ce4 BK467; obtain ⟨hfz142_0, hfz142_1, hfz142_2, hfz142_3⟩ := fr4 BK467; obtain ⟨Ao143, co143, eo143⟩ := Kd.V_slice HO459.out; subst eo143; obtain ⟨Ao144, co144, eo144⟩ := Kd.V_slice HO462.out; subst eo144) | ((with_reducible refine gate_store (t := 27) (p := 11) rfl ?_); refine store_event (t := 27) (p := 11) (v := ?vo_w145) (w1 := ((((w133.setCell ⟨gb467, 0, none⟩ (.int .i64 t455)).setCell ⟨gb467, 1, none⟩ (.int .i64 t456)).setCell ⟨gb467, 2, none⟩ (.slice Ao143 t457.length co143)).setCell ⟨gb467, 3, none⟩ (.slice Ao144 t460.length co144))) ?hg ?ho ?hn ?hr ?_; (case ho => rfl); (case hg => rfl); (case hn => rfl); (case hr => first | (go_simp; done) | (go_simp; rfl)); intro w145 hw; replace HO431 : Aside0 (Kd.V (Kd.int .i64) 3 w145 w.heap.size (fun k_ => k_ ≠ gb418 ∧ k_ ≠ gb419 ∧ k_ ≠ gb420 ∧ k_ ≠ gb439 ∧ k_ ≠ gb440 ∧ k_ ≠ gb453 ∧ k_ ≠ gb454 ∧ k_ ≠ gb467 ∧ k_ ≠ gb468) (.slice Ao97 t429.length co97) t429) := ⟨(by rw [hw]; exact (by (with_reducible repeat (first | apply Kd.V_alloc | apply Kd.V_drewN | apply Kd.V_drew)); exact Kd.V_mono (Kd.V_far (p := ⟨gb467, 3, none⟩) (Kd.V_far (p := ⟨gb467, 2, none⟩) (Kd.V_far (p := ⟨gb467, 1, none⟩) (Kd.V_far (p := ⟨gb467, 0, none⟩) (Kd.V_mono HO431.out (fun k_ hk => (⟨hk, hk.1.2⟩ : _ ∧ k_ ≠ gb467))) (fun _ hk => hk.2) (.int .i64 t455)) (fun _ hk => hk.2) (.int .i64 t456)) (fun _ hk => hk.2) (.slice Ao143 t457.length co143)) (fun _ hk => hk.2) (.slice Ao144 t460.length co144)) (fun _ hk => ⟨hk.1.1.1.1, ⟨hk.1.1.1.2.1, ⟨hk.1.1.1.2.2.1, ⟨hk.1.1.1.2.2.2.1, ⟨hk.1.1.1.2.2.2.2.1, ⟨hk.1.1.1.2.2.2.2.2.1, ⟨hk.1.1.1.2.2.2.2.2.2, ⟨hk.1.1.2, hk.1.2⟩⟩⟩⟩⟩⟩⟩⟩)))⟩; replace HO434 : Aside0 (Kd.V k53 53 w145 w.heap.size (fun k_ => k_ ≠ gb418 ∧ k_ ≠ gb419 ∧ k_ ≠ gb420 ∧ k_ ≠ gb439 ∧ k_ ≠ gb440 ∧ k_ ≠ gb453 ∧ k_ ≠ gb454 ∧ k_ ≠ gb467 ∧ k_ ≠ gb468) (.slice Ao98 t432.length co98) t432) := ⟨(by rw [hw]; exact (by (with_reducible repeat (first | apply Kd.V_alloc | apply Kd.V_drewN | apply Kd.V_drew)); exact Kd.V_mono (Kd.V_far (p := ⟨gb467, 3, none⟩) (Kd.V_far (p := ⟨gb467, 2, none⟩) (Kd.V_far (p := ⟨gb467, 1, none⟩) (Kd.V_far (p := ⟨gb467, 0, none⟩) (Kd.V_mono HO434.out (fun k_ hk => (⟨hk, hk.1.2⟩ : _ ∧ k_ ≠ gb467))) (fun _ hk => hk.2) (.int .i64 t455)) (fun _ hk => hk.2) (.int .i64 t456)) (fun _ hk => hk.2) (.slice Ao143 t457.length co143)) (fun _ hk => hk.2) (.slice Ao144 t460.length co144)) (fun _ hk => ⟨hk.1.1.1.1, ⟨hk.1.1.1.2.1, ⟨hk.1.1.1.2.2.1, ⟨hk.1.1.1.2.2.2.1, ⟨hk.1.1.1.2.2.2.2.1, ⟨hk.1.1.1.2.2.2.2.2.1, ⟨hk.1.1.1.2.2.2.2.2.2, ⟨hk.1.1.2, hk.1.2⟩⟩⟩⟩⟩⟩⟩⟩)))⟩; replace HO445 : Aside0 (Kd.V (Kd.int .i64) 3 w145 w.heap.size (fun k_ => k_ ≠ gb418 ∧ k_ ≠ gb419 ∧ k_ ≠ gb420 ∧ k_ ≠ gb439 ∧ k_ ≠ gb440 ∧ k_ ≠ gb453 ∧ k_ ≠ gb454 ∧ k_ ≠ gb467 ∧ k_ ≠ gb468) (.slice Ao118 t443.length co118) t443) := ⟨(by rw [hw]; exact (by (with_reducible repeat (first | apply Kd.V_alloc | apply Kd.V_drewN | apply Kd.V_drew)); exact Kd.V_mono (Kd.V_far (p := ⟨gb467, 3, none⟩) (Kd.V_far (p := ⟨gb467, 2, none⟩) (Kd.V_far (p := ⟨gb467, 1, none⟩) (Kd.V_far (p := ⟨gb467, 0, none⟩) (Kd.V_mono HO445.out (fun k_ hk => (⟨hk, hk.1.2⟩ : _ ∧ k_ ≠ gb467))) (fun _ hk => hk.2) (.int .i64 t455)) (fun _ hk => hk.2) (.int .i64 t456)) (fun _ hk => hk.2) (.slice Ao143 t457.length co143)) (fun _ hk => hk.2) (.slice Ao144 t460.length co144)) (fun _ hk => ⟨hk.1.1.1.1, ⟨hk.1.1.1.2.1, ⟨hk.1.1.1.2.2.1, ⟨hk.1.1.1.2.2.2.1, ⟨hk.1.1.1.2.2.2.2.1, ⟨hk.1.1.1.2.2.2.2.2.1, ⟨hk.1.1.1.2.2.2.2.2.2, ⟨hk.1.1.2, hk.1.2⟩⟩⟩⟩⟩⟩⟩⟩)))⟩; replace HO448 : Aside0 (Kd.V k53 53 w145 w.heap.size (fun k_ => k_ ≠ gb418 ∧ k_ ≠ gb419 ∧ k_ ≠ gb420 ∧ k_ ≠ gb439 ∧ k_ ≠ gb440 ∧ k_ ≠ gb453 ∧ k_ ≠ gb454 ∧ k_ ≠ gb467 ∧ k_ ≠ gb468) (.slice Ao119 t446.length co119) t446) := ⟨(by rw [hw]; exact (by (with_reducible repeat (first | apply Kd.V_alloc | apply Kd.V_drewN | apply Kd.V_drew)); exact Kd.V_mono (Kd.V_far (p := ⟨gb467, 3, none⟩) (Kd.V_far (p := ⟨gb467, 2, none⟩) (Kd.V_far (p := ⟨gb467, 1, none⟩) (Kd.V_far (p := ⟨gb467, 0, none⟩) (Kd.V_mono HO448.out (fun k_ hk => (⟨hk, hk.1.2⟩ : _ ∧ k_ ≠ gb467))) (fun _ hk => hk.2) (.int .i64 t455)) (fun _ hk => hk.2) (.int .i64 t456)) (fun _ hk => hk.2) (.slice Ao143 t457.length co143)) (fun _ hk => hk.2) (.slice Ao144 t460.length co144)) (fun _ hk => ⟨hk.1.1.1.1, ⟨hk.1.1.1.2.1, ⟨hk.1.1.1.2.2.1, ⟨hk.1.1.1.2.2.2.1, ⟨hk.1.1.1.2.2.2.2.1, ⟨hk.1.1.1.2.2.2.2.2.1, ⟨hk.1.1.1.2.2.2.2.2.2, ⟨hk.1.1.2, hk.1.2⟩⟩⟩⟩⟩⟩⟩⟩)))⟩; replace HO459 : Aside0 (Kd.V (Kd.int .i64) 3 w145 w.heap.size (fun k_ => k_ ≠ gb418 ∧ k_ ≠ gb419 ∧ k_ ≠ gb420 ∧ k_ ≠ gb439 ∧ k_ ≠ gb440 ∧ k_ ≠ gb453 ∧ k_ ≠ gb454 ∧ k_ ≠ gb467 ∧ k_ ≠ gb468) (.slice Ao143 t457.length co143) t457) := ⟨(by rw [hw]; exact (by (with_reducible repeat (first | apply Kd.V_alloc | apply Kd.V_drewN | apply Kd.V_drew)); exact Kd.V_mono (Kd.V_far (p := ⟨gb467, 3, none⟩) (Kd.V_far (p := ⟨gb467, 2, none⟩) (Kd.V_far (p := ⟨gb467, 1, none⟩) (Kd.V_far (p := ⟨gb467, 0, none⟩) (Kd.V_mono HO459.out (fun k_ hk => (⟨hk, hk.1.2⟩ : _ ∧ k_ ≠ gb467))) (fun _ hk => hk.2) (.int .i64 t455)) (fun _ hk => hk.2) (.int .i64 t456)) (fun _ hk => hk.2) (.slice Ao143 t457.length co143)) (fun _ hk => hk.2) (.slice Ao144 t460.length co144)) (fun _ hk => ⟨hk.1.1.1.1, ⟨hk.1.1.1.2.1, ⟨hk.1.1.1.2.2.1, ⟨hk.1.1.1.2.2.2.1, ⟨hk.1.1.1.2.2.2.2.1, ⟨hk.1.1.1.2.2.2.2.2.1, ⟨hk.1.1.1.2.2.2.2.2.2, ⟨hk.1.1.2, hk.1.2⟩⟩⟩⟩⟩⟩⟩⟩)))⟩; replace HO462 : Aside0 (Kd.V k53 53 w145 w.heap.size (fun k_ => k_ ≠ gb418 ∧ k_ ≠ gb419 ∧ k_ ≠ gb420 ∧ k_ ≠ gb439 ∧ k_ ≠ gb440 ∧ k_ ≠ gb453 ∧ k_ ≠ gb454 ∧ k_ ≠ gb467 ∧ k_ ≠ gb468) (.slice Ao144 t460.length co144) t460) := ⟨(by rw [hw]; exact (by (with_reducible repeat (first | apply Kd.V_alloc | apply Kd.V_drewN | apply Kd.V_drew)); exact Kd.V_mono (Kd.V_far (p := ⟨gb467, 3, none⟩) (Kd.V_far (p := ⟨gb467, 2, none⟩) (Kd.V_far (p := ⟨gb467, 1, none⟩) (Kd.V_far (p := ⟨gb467, 0, none⟩) (Kd.V_mono HO462.out (fun k_ hk => (⟨hk, hk.1.2⟩ : _ ∧ k_ ≠ gb467))) (fun _ hk => hk.2) (.int .i64 t455)) (fun _ hk => hk.2) (.int .i64 t456)) (fun _ hk => hk.2) (.slice Ao143 t457.length co143)) (fun _ hk => hk.2) (.slice Ao144 t460.length co144)) (fun _ hk => ⟨hk.1.1.1.1, ⟨hk.1.1.1.2.1, ⟨hk.1.1.1.2.2.1, ⟨hk.1.1.1.2.2.2.1, ⟨hk.1.1.1.2.2.2.2.1, ⟨hk.1.1.1.2.2.2.2.2.1, ⟨hk.1.1.1.2.2.2.2.2.2, ⟨hk.1.1.2, hk.1.2⟩⟩⟩⟩⟩⟩⟩⟩)))⟩; replace BK418 : Aside0 (w145.heap[gb418]? = some (.cells #[.int .i64 a0_0, .int .i64 a0_1, .int .i64 a0_2, .int .i64 a0_3] 23 (0, 0))) := ⟨(by rw [hw]; exact (by (with_reducible repeat (first | refine blk_drewN ?_ _ | refine blk_drew ?_ | refine blk_alloc ?_ _)); refine blk_far ?_ NB418_467.out _; (with_reducible repeat (first | refine blk_drewN ?_ _ | refine blk_drew ?_ | refine blk_alloc ?_ _)); refine blk_far ?_ NB418_467.out _; (with_reducible repeat (first | refine blk_drewN ?_ _ | refine blk_drew ?_ | refine blk_alloc ?_ _)); refine blk_far ?_ NB418_467.out _; (with_reducible repeat (first | refine blk_drewN ?_ _ | refine blk_drew ?_ | refine blk_alloc ?_ _)); refine blk_far ?_ NB418_467.out _; (with_reducible repeat (first | refine blk_drewN ?_ _ | refine blk_drew ?_ | refine blk_alloc ?_ _)); exact BK418.out))⟩; replace BK419 : Aside0 (w145.heap[gb419]? = some (.cells #[.int .i64 a1_0, .int .i64 a1_1, .slice A1_2 l1_2.length c1_2, .slice A1_3 l1_3.length c1_3] 27 (0, 0))) := ⟨(by rw [hw]; exact (by (with_reducible repeat (first | refine blk_drewN ?_ _ | refine blk_drew ?_ | refine blk_alloc ?_ _)); refine blk_far ?_ NB419_467.out _; (with_reducible repeat (first | refine blk_drewN ?_ _ | refine blk_drew ?_ | refine blk_alloc ?_ _)); refine blk_far ?_ NB419_467.out _; (with_reducible repeat (first | refine blk_drewN ?_ _ | refine blk_drew ?_ | refine blk_alloc ?_ _)); refine blk_far ?_ NB419_467.out _; (with_reducible repeat (first | refine blk_drewN ?_ _ | refine blk_drew ?_ | refine blk_alloc ?_ _)); refine blk_far ?_ NB419_467.out _; (with_reducible repeat (first | refine blk_drewN ?_ _ | refine blk_drew ?_ | refine blk_alloc ?_ _)); exact BK419.out))⟩; replace BK420 : Aside0 (w145.heap[gb420]? = some (.cells #[.int .i64 a2_0, .int .i64 a2_1, .int .i64 a2_2] 47 (0, 0))) := ⟨(by rw [hw]; exact (by (with_reducible repeat (first | refine blk_drewN ?_ _ | refine blk_drew ?_ | refine blk_alloc ?_ _)); refine blk_far ?_ NB420_467.out _; (with_reducible repeat (first | refine blk_drewN ?_ _ | refine blk_drew ?_ | refine blk_alloc ?_ _)); refine blk_far ?_ NB420_467.out _; (with_reducible repeat (first | refine blk_drewN ?_ _ | refine blk_drew ?_ | refine blk_alloc ?_ _)); refine blk_far ?_ NB420_467.out _; (with_reducible repeat (first | refine blk_drewN ?_ _ | refine blk_drew ?_ | refine blk_alloc ?_ _)); refine blk_far ?_ NB420_467.out _; (with_reducible repeat (first | refine blk_drewN ?_ _ | refine blk_drew ?_ | refine blk_alloc ?_ _)); exact BK420.out))⟩; replace BK439 : Aside0 (w145.heap[gb439]? = some (.cells #[.int .i64 t427, .int .i64 t428, .slice Ao97 t429.length co97, .slice Ao98 t432.length co98] 27 (0, 0))) := ⟨(by rw [hw]; exact (by (with_reducible repeat (first | refine blk_drewN ?_ _ | refine blk_drew ?_ | refine blk_alloc ?_ _)); refine blk_far ?_ NB439_467.out _; (with_reducible repeat (first | refine blk_drewN ?_ _ | refine blk_drew ?_ | refine blk_alloc ?_ _)); refine blk_far ?_ NB439_467.out _; (with_reducible repeat (first | refine blk_drewN ?_ _ | refine blk_drew ?_ | refine blk_alloc ?_ _)); refine blk_far ?_ NB439_467.out _; (with_reducible repeat (first | refine blk_drewN ?_ _ | refine blk_drew ?_ | refine blk_alloc ?_ _)); refine blk_far ?_ NB439_467.out _; (with_reducible repeat (first | refine blk_drewN ?_ _ | refine blk_drew ?_ | refine blk_alloc ?_ _)); exact BK439.out))⟩; replace BK440 : Aside0 (w145.heap[gb440]? = some (.cells #[.bool t435, .int .i64 t436, .int .i64 t437, .int .i64 t438] 32 (0, 0))) := ⟨(by rw [hw]; exact (by (with_reducible repeat (first | refine blk_drewN ?_ _ | refine blk_drew ?_ | refine blk_alloc ?_ _)); refine blk_far ?_ NB440_467.out _; (with_reducible repeat (first | refine blk_drewN ?_ _ | refine blk_drew ?_ | refine blk_alloc ?_ _)); refine blk_far ?_ NB440_467.out _; (with_reducible repeat (first | refine blk_drewN ?_ _ | refine blk_drew ?_ | refine blk_alloc ?_ _)); refine blk_far ?_ NB440_467.out _; (with_reducible repeat (first | refine blk_drewN ?_ _ | refine blk_drew ?_ | refine blk_alloc ?_ _)); refine blk_far ?_ NB440_467.out _; (with_reducible repeat (first | refine blk_drewN ?_ _ | refine blk_drew ?_ | refine blk_alloc ?_ _)); exact BK440.out))⟩; replace BK453 : Aside0 (w145.heap[gb453]? = some (.cells #[.int .i64 t441, .int .i64 t442, .slice Ao118 t443.length co118, .slice Ao119 t446.length co119] 27 (0, 0))) := ⟨(by rw [hw]; exact (by (with_reducible repeat (first | refine blk_drewN ?_ _ | refine blk_drew ?_ | refine blk_alloc ?_ _)); refine blk_far ?_ NB453_467.out _; (with_reducible repeat (first | refine blk_drewN ?_ _ | refine blk_drew ?_ | refine blk_alloc ?_ _)); refine blk_far ?_ NB453_467.out _; (with_reducible repeat (first | refine blk_drewN ?_ _ | refine blk_drew ?_ | refine blk_alloc ?_ _)); refine blk_far ?_ NB453_467.out _; (with_reducible repeat (first | refine blk_drewN ?_ _ | refine blk_drew ?_ | refine blk_alloc ?_ _)); refine blk_far ?_ NB453_467.out _; (with_reducible repeat (first | refine blk_drewN ?_ _ | refine blk_drew ?_ | refine blk_alloc ?_ _)); exact BK453.out))⟩; replace BK454 : Aside0 (w145.heap[gb454]? = some (.cells #[.bool t449, .int .i64 t450, .int .i64 t451, .int .i64 t452] 32 (0, 0))) := ⟨(by rw [hw]; exact (by (with_reducible repeat (first | refine blk_drewN ?_ _ | refine blk_drew ?_ | refine blk_alloc ?_ _)); refine blk_far ?_ NB454_467.out _; (with_reducible repeat (first | refine blk_drewN ?_ _ | refine blk_drew ?_ | refine blk_alloc ?_ _)); refine blk_far ?_ NB454_467.out _; (with_reducible repeat (first | refine blk_drewN ?_ _ | refine blk_drew ?_ | refine blk_alloc ?_ _)); refine blk_far ?_ NB454_467.out _; (with_reducible repeat (first | refine blk_drewN ?_ _ | refine blk_drew ?_ | refine blk_alloc ?_ _)); refine blk_far ?_ NB454_467.out _; (with_reducible repeat (first | refine blk_drewN ?_ _ | refine blk_drew ?_ | refine blk_alloc ?_ _)); exact BK454.out))⟩; replace BK467 : Aside0 (w145.heap[gb467]? = some (.cells #[.int .i64 t455, .int .i64 t456, .slice Ao143 t457.length co143, .slice Ao144 t460.length co144] 27 (0, 0))) := ⟨(by rw [hw]; exact (by (with_reducible repeat (first | refine blk_drewN ?_ _ | refine blk_drew ?_ | refine blk_alloc ?_ _)); refine blk_put (cs := #[.int .i64 t455, .int .i64 t456, .slice Ao143 t457.length co143, .slice none 0 0]) ?_ 3 _ rfl; (with_reducible repeat (first | refine blk_drewN ?_ _ | refine blk_drew ?_ | refine blk_alloc ?_ _)); refine blk_put (cs := #[.int .i64 t455, .int .i64 t456, .slice none 0 0, .slice none 0 0]) ?_ 2 _ rfl; (with_reducible repeat (first | refine blk_drewN ?_ _ | refine blk_drew ?_ | refine blk_alloc ?_ _)); refine blk_put (cs := #[.int .i64 t455, .int .i64 0, .slice none 0 0, .slice none 0 0]) ?_ 1 _ rfl; (with_reducible repeat (first | refine blk_drewN ?_ _ | refine blk_drew ?_ | refine blk_alloc ?_ _)); refine blk_put (cs := #[.int .i64 0, .int .i64 0, .slice none 0 0, .slice none 0 0]) ?_ 0 _ rfl; (with_reducible repeat (first | refine blk_drewN ?_ _ | refine blk_drew ?_ | refine blk_alloc ?_ _)); exact BK467.out))⟩; replace BK468 : Aside0 (w145.heap[gb468]? = some (.cells #[.bool false, .int .i64 0, .int .i64 0, .int .i64 0] 32 (0, 0))) := ⟨(by rw [hw]; exact (by (with_reducible repeat (first | refine blk_drewN ?_ _ | refine blk_drew ?_ | refine blk_alloc ?_ _)); refine blk_far ?_ NB468_467.out _; (with_reducible repeat (first | refine blk_drewN ?_ _ | refine blk_drew ?_ | refine blk_alloc ?_ _)); refine blk_far ?_ NB468_467.out _; (with_reducible repeat (first | refine blk_drewN ?_ _ | refine blk_drew ?_ | refine blk_alloc ?_ _)); refine blk_far ?_ NB468_467.out _; (with_reducible repeat (first | refine blk_drewN ?_ _ | refine blk_drew ?_ | refine blk_alloc ?_ _)); refine blk_far ?_ NB468_467.out _; (with_reducible repeat (first | refine blk_drewN ?_ _ | refine blk_drew ?_ | refine blk_alloc ?_ _)); exact BK468.out))⟩; replace HB : Aside0 (Below w.heap.size w w145) := ⟨(by rw [hw]; exact (bl HB))⟩; clear hw; have hnb146 := NB468_418.out; have hnc146 := NB418_468.out; have hnb147 := NB468_419.out; have hnc147 := NB419_468.out; have hnb148 := NB468_420.out; have hnc148 := NB420_468.out; have hnb149 := NB468_439.out; have hnc149 := NB439_468.out; have hnb150 := NB468_440.out; have hnc150 := NB440_468.out; have hnb151 := NB468_453.out; have hnc151 := NB453_468.out; have hnb152 := NB468_454.out; have hnc152 := NB454_468.out; obtain ⟨hcz153_0, hcz153_1, hcz153_2, hcz153_3⟩ := ce4 BK468; obtain ⟨hfz153_0, hfz153_1, hfz153_2, hfz153_3⟩ := fr4 BK468) | ((with_reducible refine gate_store (t := 32) (p := 12) rfl ?_); refine store_event (t := 32) (p := 12) (v := ?vo_w154) (w1 := ((((w145.setCell ⟨gb468, 0, none⟩ (.bool t463)).setCell ⟨gb468, 1, none⟩ (.int .i64 t464)).setCell ⟨gb468, 2, none⟩ (.int .i64 t465)).setCell ⟨gb468, 3, none⟩ (.int .i64 t466))) ?hg ?ho ?hn ?hr ?_; (case ho => rfl); (case hg => rfl); (case hn => rfl); (case hr => first | (go_simp; done) | (go_simp; rfl)); intro w154 hw; replace HO431 : Aside0 (Kd.V (Kd.int .i64) 3 w154 w.heap.size (fun k_ => k_ ≠ gb418 ∧ k_ ≠ gb419 ∧ k_ ≠ gb420 ∧ k_ ≠ gb439 ∧ k_ ≠ gb440 ∧ k_ ≠ gb453 ∧ k_ ≠ gb454 ∧ k_ ≠ gb467 ∧ k_ ≠ gb468) (.slice Ao97 t429.length co97) t429) := ⟨(by rw [hw]; exact (by (with_reducible repeat (first | apply Kd.V_alloc | apply Kd.V_drewN | apply Kd.V_drew)); exact Kd.V_mono (Kd.V_far (p := ⟨gb468, 3, none⟩) (Kd.V_far (p := ⟨gb468, 2, none⟩) (Kd.V_far (p := ⟨gb468, 1, none⟩) (Kd.V_far (p := ⟨gb468, 0, none⟩) (Kd.V_mono HO431.out (fun k_ hk => (⟨hk, hk.2.2.2.2.2.2.2.2⟩ : _ ∧ k_ ≠ gb468))) (fun _ hk => hk.2) (.bool t463)) (fun _ hk => hk.2) (.int .i64 t464)) (fun _ hk => hk.2) (.int .i64 t465)) (fun _ hk => hk.2) (.int .i64 t466)) (fun _ hk => ⟨hk.1.1, ⟨hk.1.2.1, ⟨hk.1.2.2.1, ⟨hk.1.2.2.2.1, ⟨hk.1.2.2.2.2.1, ⟨hk.1.2.2.2.2.2.1, ⟨hk.1.2.2.2.2.2.2.1, ⟨hk.1.2.2.2.2.2.2.2.1, hk.1.2.2.2.2.2.2.2.2⟩⟩⟩⟩⟩⟩⟩⟩)))⟩; replace HO434 : Aside0 (Kd.V k53 53 w154 w.heap.size (fun k_ => k_ ≠ gb418 ∧ k_ ≠ gb419 ∧ k_ ≠ gb420 ∧ k_ ≠ gb439 ∧ k_ ≠ gb440 ∧ k_ ≠ gb453 ∧ k_ ≠ gb454 ∧ k_ ≠ gb467 ∧ k_ ≠ gb468) (.slice Ao98 t432.length co98) t432) := ⟨(by rw [hw]; exact (by (with_reducible repeat (first | apply Kd.V_alloc | apply Kd.V_drewN | apply Kd.V_drew)); exact Kd.V_mono (Kd.V_far (p := ⟨gb468, 3, none⟩) (Kd.V_far (p := ⟨gb468, 2, none⟩) (Kd.V_far (p := ⟨gb468, 1, none⟩) (Kd.V_far (p := ⟨gb468, 0, none⟩) (Kd.V_mono HO434.out (fun k_ hk => (⟨hk, hk.2.2.2.2.2.2.2.2⟩ : _ ∧ k_ ≠ gb468))) (fun _ hk => hk.2) (.bool t463)) (fun _ hk => hk.2) (.int .i64 t464)) (fun _ hk => hk.2) (.int .i64 t465)) (fun _ hk => hk.2) (.int .i64 t466)) (fun _ hk => ⟨hk.1.1, ⟨hk.1.2.1, ⟨hk.1.2.2.1, ⟨hk.1.2.2.2.1, ⟨hk.1.2.2.2.2.1, ⟨hk.1.2.2.2.2.2.1, ⟨hk.1.2.2.2.2.2.2.1, ⟨hk.1.2.2.2.2.2.2.2.1, hk.1.2.2.2.2.2.2.2.2⟩⟩⟩⟩⟩⟩⟩⟩)))⟩; replace HO445 : Aside0 (Kd.V (Kd.int .i64) 3 w154 w.heap.size (fun k_ => k_ ≠ gb418 ∧ k_ ≠ gb419 ∧ k_ ≠ gb420 ∧ k_ ≠ gb439 ∧ k_ ≠ gb440 ∧ k_ ≠ gb453 ∧ k_ ≠ gb454 ∧ k_ ≠ gb467 ∧ k_ ≠ gb468) (.slice Ao118 t443.length co118) t443) := ⟨(by rw [hw]; exact (by (with_reducible repeat (first | apply Kd.V_alloc | apply Kd.V_drewN | apply Kd.V_drew)); exact Kd.V_mono (Kd.V_far (p := ⟨gb468, 3, none⟩) (Kd.V_far (p := ⟨gb468, 2, none⟩) (Kd.V_far (p := ⟨gb468, 1, none⟩) (Kd.V_far (p := ⟨gb468, 0, none⟩) (Kd.V_mono HO445.out (fun k_ hk => (⟨hk, hk.2.2.2.2.2.2.2.2⟩ : _ ∧ k_ ≠ gb468))) (fun _ hk => hk.2) (.bool t463)) (fun _ hk => hk.2) (.int .i64 t464)) (fun _ hk => hk.2) (.int .i64 t465)) (fun _ hk => hk.2) (.int .i64 t466)) (fun _ hk => ⟨hk.1.1, ⟨hk.1.2.1, ⟨hk.1.2.2.1, ⟨hk.1.2.2.2.1, ⟨hk.1.2.2.2.2.1, ⟨hk.1.2.2.2.2.2.1, ⟨hk.1.2.2.2.2.2.2.1, ⟨hk.1.2.2.2.2.2.2.2.1, hk.1.2.2.2.2.2.2.2.2⟩⟩⟩⟩⟩⟩⟩⟩)))⟩; replace HO448 : Aside0 (Kd.V k53 53 w154 w.heap.size (fun k_ => k_ ≠ gb418 ∧ k_ ≠ gb419 ∧ k_ ≠ gb420 ∧ k_ ≠ gb439 ∧ k_ ≠ gb440 ∧ k_ ≠ gb453 ∧ k_ ≠ gb454 ∧ k_ ≠ gb467 ∧ k_ ≠ gb468) (.slice Ao119 t446.length co119) t446) := ⟨(by rw [hw]; exact (by (with_reducible repeat (first | apply Kd.V_alloc | apply Kd.V_drewN | apply Kd.V_drew)); exact Kd.V_mono (Kd.V_far (p := ⟨gb468, 3, none⟩) (Kd.V_far (p := ⟨gb468, 2, none⟩) (Kd.V_far (p := ⟨gb468, 1, none⟩) (Kd.V_far (p := ⟨gb468, 0, none⟩) (Kd.V_mono HO448.out (fun k_ hk => (⟨hk, hk.2.2.2.2.2.2.2.2⟩ : _ ∧ k_ ≠ gb468))) (fun _ hk => hk.2) (.bool t463)) (fun _ hk => hk.2) (.int .i64 t464)) (fun _ hk => hk.2) (.int .i64 t465)) (fun _ hk => hk.2) (.int .i64 t466)) (fun _ hk => ⟨hk.1.1, ⟨hk.1.2.1, ⟨hk.1.2.2.1, ⟨hk.1.2.2.2.1, ⟨hk.1.2.2.2.2.1, ⟨hk.1.2.2.2.2.2.1, ⟨hk.1.2.2.2.2.2.2.1, ⟨hk.1.2.2.2.2.2.2.2.1, hk.1.2.2.2.2.2.2.2.2⟩⟩⟩⟩⟩⟩⟩⟩)))⟩; replace HO459 : Aside0 (Kd.V (Kd.int .i64) 3 w154 w.heap.size (fun k_ => k_ ≠ gb418 ∧ k_ ≠ gb419 ∧ k_ ≠ gb420 ∧ k_ ≠ gb439 ∧ k_ ≠ gb440 ∧ k_ ≠ gb453 ∧ k_ ≠ gb454 ∧ k_ ≠ gb467 ∧ k_ ≠ gb468) (.slice Ao143 t457.length co143) t457) := ⟨(by rw [hw]; exact (by (with_reducible repeat (first | apply Kd.V_alloc | apply Kd.V_drewN | apply Kd.V_drew)); exact Kd.V_mono (Kd.V_far (p := ⟨gb468, 3, none⟩) (Kd.V_far (p := ⟨gb468, 2, none⟩) (Kd.V_far (p := ⟨gb468, 1, none⟩) (Kd.V_far (p := ⟨gb468, 0, none⟩) (Kd.V_mono HO459.out (fun k_ hk => (⟨hk, hk.2.2.2.2.2.2.2.2⟩ : _ ∧ k_ ≠ gb468))) (fun _ hk => hk.2) (.bool t463)) (fun _ hk => hk.2) (.int .i64 t464)) (fun _ hk => hk.2) (.int .i64 t465)) (fun _ hk => hk.2) (.int .i64 t466)) (fun _ hk => ⟨hk.1.1, ⟨hk.1.2.1, ⟨hk.1.2.2.1, ⟨hk.1.2.2.2.1, ⟨hk.1.2.2.2.2.1, ⟨hk.1.2.2.2.2.2.1, ⟨hk.1.2.2.2.2.2.2.1, ⟨hk.1.2.2.2.2.2.2.2.1, hk.1.2.2.2.2.2.2.2.2⟩⟩⟩⟩⟩⟩⟩⟩)))⟩; replace HO462 : Aside0 (Kd.V k53 53 w154 w.heap.size (fun k_ => k_ ≠ gb418 ∧ k_ ≠ gb419 ∧ k_ ≠ gb420 ∧ k_ ≠ gb439 ∧ k_ ≠ gb440 ∧ k_ ≠ gb453 ∧ k_ ≠ gb454 ∧ k_ ≠ gb467 ∧ k_ ≠ gb468) (.slice Ao144 t460.length co144) t460) := ⟨(by rw [hw]; exact (by (with_reducible repeat (first | apply Kd.V_alloc | apply Kd.V_drewN | apply Kd.V_drew)); exact Kd.V_mono (Kd.V_far (p := ⟨gb468, 3, none⟩) (Kd.V_far (p := ⟨gb468, 2, none⟩) (Kd.V_far (p := ⟨gb468, 1, none⟩) (Kd.V_far (p := ⟨gb468, 0, none⟩) (Kd.V_mono HO462.out (fun k_ hk => (⟨hk, hk.2.2.2.2.2.2.2.2⟩ : _ ∧ k_ ≠ gb468))) (fun _ hk => hk.2) (.bool t463)) (fun _ hk => hk.2) (.int .i64 t464)) (fun _ hk => hk.2) (.int .i64 t465)) (fun _ hk => hk.2) (.int .i64 t466)) (fun _ hk => ⟨hk.1.1, ⟨hk.1.2.1, ⟨hk.1.2.2.1, ⟨hk.1.2.2.2.1, ⟨hk.1.2.2.2.2.1, ⟨hk.1.2.2.2.2.2.1, ⟨hk.1.2.2.2.2.2.2.1, ⟨hk.1.2.2.2.2.2.2.2.1, hk.1.2.2.2.2.2.2.2.2⟩⟩⟩⟩⟩⟩⟩⟩)))⟩; replace BK418 : Aside0 (w154.heap[gb418]? = some (.cells #[.int .i64 a0_0, .int .i64 a0_1, .int .i64 a0_2, .int .i64 a0_3] 23 (0, 0))) := ⟨(by rw [hw]; exact (by (with_reducible repeat (first | refine blk_drewN ?_ _ | refine blk_drew ?_ | refine blk_alloc ?_ _)); refine blk_far ?_ NB418_468.out _; (with_reducible repeat (first | refine blk_drewN ?_ _ | refine blk_drew ?_ | refine blk_alloc ?_ _)); refine blk_far ?_ NB418_468.out _; (with_reducible repeat (first | refine blk_drewN ?_ _ | refine blk_drew ?_ | refine blk_alloc ?_ _)); refine blk_far ?_ NB418_468.out _; (with_reducible repeat (first | refine blk_drewN ?_ _ | refine blk_drew ?_ | refine blk_alloc ?_ _)); refine blk_far ?_ NB418_468.out _; (with_reducible repeat (first | refine blk_drewN ?_ _ | refine blk_drew ?_ | refine blk_alloc ?_ _)); exact BK418.out))⟩; replace BK419 : Aside0 (w154.heap[gb419]? = some (.cells #[.int .i64 a1_0, .int .i64 a1_1, .slice A1_2 l1_2.length c1_2, .slice A1_3 l1_3.length c1_3] 27 (0, 0))) := ⟨(by rw [hw]; exact (by (with_reducible repeat (first | refine blk_drewN ?_ _ | refine blk_drew ?_ | refine blk_alloc ?_ _)); refine blk_far ?_ NB419_468.out _; (with_reducible repeat (first | refine blk_drewN ?_ _ | refine blk_drew ?_ | refine blk_alloc ?_ _)); refine blk_far ?_ NB419_468.out _; (with_reducible repeat (first | refine blk_drewN ?_ _ | refine blk_drew ?_ | refine blk_alloc ?_ _)); refine blk_far ?_ NB419_468.out _; (with_reducible repeat (first | refine blk_drewN ?_ _ | refine blk_drew ?_ | refine blk_alloc ?_ _)); refine blk_far ?_ NB419_468.out _; (with_reducible repeat (first | refine blk_drewN ?_ _ | refine blk_drew ?_ | refine blk_alloc ?_ _)); exact BK419.out))⟩; replace BK420 : Aside0 (w154.heap[gb420]? = some (.cells #[.int .i64 a2_0, .int .i64 a2_1, .int .i64 a2_2] 47 (0, 0))) := ⟨(by rw [hw]; exact (by (with_reducible repeat (first | refine blk_drewN ?_ _ | refine blk_drew ?_ | refine blk_alloc ?_ _)); refine blk_far ?_ NB420_468.out _; (with_reducible repeat (first | refine blk_drewN ?_ _ | refine blk_drew ?_ | refine blk_alloc ?_ _)); refine blk_far ?_ NB420_468.out _; (with_reducible repeat (first | refine blk_drewN ?_ _ | refine blk_drew ?_ | refine blk_alloc ?_ _)); refine blk_far ?_ NB420_468.out _; (with_reducible repeat (first | refine blk_drewN ?_ _ | refine blk_drew ?_ | refine blk_alloc ?_ _)); refine blk_far ?_ NB420_468.out _; (with_reducible repeat (first | refine blk_drewN ?_ _ | refine blk_drew ?_ | refine blk_alloc ?_ _)); exact BK420.out))⟩; replace BK439 : Aside0 (w154.heap[gb439]? = some (.cells #[.int .i64 t427, .int .i64 t428, .slice Ao97 t429.length co97, .slice Ao98 t432.length co98] 27 (0, 0))) := ⟨(by rw [hw]; exact (by (with_reducible repeat (first | refine blk_drewN ?_ _ | refine blk_drew ?_ | refine blk_alloc ?_ _)); refine blk_far ?_ NB439_468.out _; (with_reducible repeat (first | refine blk_drewN ?_ _ | refine blk_drew ?_ | refine blk_alloc ?_ _)); refine blk_far ?_ NB439_468.out _; (with_reducible repeat (first | refine blk_drewN ?_ _ | refine blk_drew ?_ | refine blk_alloc ?_ _)); refine blk_far ?_ NB439_468.out _; (with_reducible repeat (first | refine blk_drewN ?_ _ | refine blk_drew ?_ | refine blk_alloc ?_ _)); refine blk_far ?_ NB439_468.out _; (with_reducible repeat (first | refine blk_drewN ?_ _ | refine blk_drew ?_ | refine blk_alloc ?_ _)); exact BK439.out))⟩; replace BK440 : Aside0 (w154.heap[gb440]? = some (.cells #[.bool t435, .int .i64 t436, .int .i64 t437, .int .i64 t438] 32 (0, 0))) := ⟨(by rw [hw]; exact (by (with_reducible repeat (first | refine blk_drewN ?_ _ | refine blk_drew ?_ | refine blk_alloc ?_ _)); refine blk_far ?_ NB440_468.out _; (with_reducible repeat (first | refine blk_drewN ?_ _ | refine blk_drew ?_ | refine blk_alloc ?_ _)); refine blk_far ?_ NB440_468.out _; (with_reducible repeat (first | refine blk_drewN ?_ _ | refine blk_drew ?_ | refine blk_alloc ?_ _)); refine blk_far ?_ NB440_468.out _; (with_reducible repeat (first | refine blk_drewN ?_ _ | refine blk_drew ?_ | refine blk_alloc ?_ _)); refine blk_far ?_ NB440_468.out _; (with_reducible repeat (first | refine blk_drewN ?_ _ | refine blk_drew ?_ | refine blk_alloc ?_ _)); exact BK440.out))⟩; replace BK453 : Aside0 (w154.heap[gb453]? = some (.cells #[.int .i64 t441, .int .i64 t442, .slice Ao118 t443.length co118, .slice Ao119 t446.length co119] 27 (0, 0))) := ⟨(by rw [hw]; exact (by (with_reducible repeat (first | refine blk_drewN ?_ _ | refine blk_drew ?_ | refine blk_alloc ?_ _)); refine blk_far ?_ NB453_468.out _; (with_reducible repeat (first | refine blk_drewN ?_ _ | refine blk_drew ?_ | refine blk_alloc ?_ _)); refine blk_far ?_ NB453_468.out _; (with_reducible repeat (first | refine blk_drewN ?_ _ | refine blk_drew ?_ | refine blk_alloc ?_ _)); refine blk_far ?_ NB453_468.out _; (with_reducible repeat (first | refine blk_drewN ?_ _ | refine blk_drew ?_ | refine blk_alloc ?_ _)); refine blk_far ?_ NB453_468.out _; (with_reducible repeat (first | refine blk_drewN ?_ _ | refine blk_drew ?_ | refine blk_alloc ?_ _)); exact BK453.out))⟩; replace BK454 : Aside0 (w154.heap[gb454]? = some (.cells #[.bool t449, .int .i64 t450, .int .i64 t451, .int .i64 t452] 32 (0, 0))) := ⟨(by rw [hw]; exact (by (with_reducible repeat (first | refine blk_drewN ?_ _ | refine blk_drew ?_ | refine blk_alloc ?_ _)); refine blk_far ?_ NB454_468.out _; (with_reducible repeat (first | refine blk_drewN ?_ _ | refine blk_drew ?_ | refine blk_alloc ?_ _)); refine blk_far ?_ NB454_468.out _; (with_reducible repeat (first | refine blk_drewN ?_ _ | refine blk_drew ?_ | refine blk_alloc ?_ _)); refine blk_far ?_ NB454_468.out _; (with_reducible repeat (first | refine blk_drewN ?_ _ | refine blk_drew ?_ | refine blk_alloc ?_ _)); refine blk_far ?_ NB454_468.out _; (with_reducible repeat (first | refine blk_drewN ?_ _ | refine blk_drew ?_ | refine blk_alloc ?_ _)); exact BK454.out))⟩; replace BK467 : Aside0 (w154.heap[gb467]? = some (.cells #[.int .i64 t455, .int .i64 t456, .slice Ao143 t457.length co143, .slice Ao144 t460.length co144] 27 (0, 0))) := ⟨(by rw [hw]; exact (by (with_reducible repeat (first | refine blk_drewN ?_ _ | refine blk_drew ?_ | refine blk_alloc ?_ _)); refine blk_far ?_ NB467_468.out _; (with_reducible repeat (first | refine blk_drewN ?_ _ | refine blk_drew ?_ | refine blk_alloc ?_ _)); refine blk_far ?_ NB467_468.out _; (with_reducible repeat (first | refine blk_drewN ?_ _ | refine blk_drew ?_ | refine blk_alloc ?_ _)); refine blk_far ?_ NB467_468.out _; (with_reducible repeat (first | refine blk_drewN ?_ _ | refine blk_drew ?_ | refine blk_alloc ?_ _)); refine blk_far ?_ NB467_468.out _; (with_reducible repeat (first | refine blk_drewN ?_ _ | refine blk_drew ?_ | refine blk_alloc ?_ _)); exact BK467.out))⟩; replace BK468 : Aside0 (w154.heap[gb468]? = some (.cells #[.bool t463, .int .i64 t464, .int .i64 t465, .int .i64 t466] 32 (0, 0))) := ⟨(by rw [hw]; exact (by (with_reducible repeat (first | refine blk_drewN ?_ _ | refine blk_drew ?_ | refine blk_alloc ?_ _)); refine blk_put (cs := #[.bool t463, .int .i64 t464, .int .i64 t465, .int .i64 0]) ?_ 3 _ rfl; (with_reducible repeat (first | refine blk_drewN ?_ _ | refine blk_drew ?_ | refine blk_alloc ?_ _)); refine blk_put (cs := #[.bool t463, .int .i64 t464, .int .i64 0, .int .i64 0]) ?_ 2 _ rfl; (with_reducible repeat (first | refine blk_drewN ?_ _ | refine blk_drew ?_ | refine blk_alloc ?_ _)); refine blk_put (cs := #[.bool t463, .int .i64 0, .int .i64 0, .int .i64 0]) ?_ 1 _ rfl; (with_reducible repeat (first | refine blk_drewN ?_ _ | refine blk_drew ?_ | refine blk_alloc ?_ _)); refine blk_put (cs := #[.bool false, .int .i64 0, .int .i64 0, .int .i64 0]) ?_ 0 _ rfl; (with_reducible repeat (first | refine blk_drewN ?_ _ | refine blk_drew ?_ | refine blk_alloc ?_ _)); exact BK468.out))⟩; replace HB : Aside0 (Below w.heap.size w w154) := ⟨(by rw [hw]; exact (bl HB))⟩; clear hw))
        (try simp only [Act.put, List.setIfInBounds_toArray, List.set_cons_zero, List.set_cons_succ])
        go_cut [13] (fun v13 wc => ∃ (kq : Nat) (x13_81 : Bool), v13 = .bool x13_81 ∧ Aside0 (sandglasslaw11_FixedParts.j1 kq x13_81 t441 t442 t443 t446 t449 t450 t451 t452 t455 t456 t457 t460 t463 t464 t465 t466 = some r) ∧ Aside0 (kq ≤ kj3) ∧ Aside0 (Kd.V (Kd.int .i64) 3 wc w.heap.size (fun k_ => k_ ≠ gb418 ∧ k_ ≠ gb419 ∧ k_ ≠ gb420 ∧ k_ ≠ gb439 ∧ k_ ≠ gb440 ∧ k_ ≠ gb453 ∧ k_ ≠ gb454 ∧ k_ ≠ gb467 ∧ k_ ≠ gb468) (.slice Ao97 t429.length co97) t429) ∧ Aside0 (Kd.V k53 53 wc w.heap.size (fun k_ => k_ ≠ gb418 ∧ k_ ≠ gb419 ∧ k_ ≠ gb420 ∧ k_ ≠ gb439 ∧ k_ ≠ gb440 ∧ k_ ≠ gb453 ∧ k_ ≠ gb454 ∧ k_ ≠ gb467 ∧ k_ ≠ gb468) (.slice Ao98 t432.length co98) t432) ∧ Aside0 (Kd.V (Kd.int .i64) 3 wc w.heap.size (fun k_ => k_ ≠ gb418 ∧ k_ ≠ gb419 ∧ k_ ≠ gb420 ∧ k_ ≠ gb439 ∧ k_ ≠ gb440 ∧ k_ ≠ gb453 ∧ k_ ≠ gb454 ∧ k_ ≠ gb467 ∧ k_ ≠ gb468) (.slice Ao118 t443.length co118) t443) ∧ Aside0 (Kd.V k53 53 wc w.heap.size (fun k_ => k_ ≠ gb418 ∧ k_ ≠ gb419 ∧ k_ ≠ gb420 ∧ k_ ≠ gb439 ∧ k_ ≠ gb440 ∧ k_ ≠ gb453 ∧ k_ ≠ gb454 ∧ k_ ≠ gb467 ∧ k_ ≠ gb468) (.slice Ao119 t446.length co119) t446) ∧ Aside0 (Kd.V (Kd.int .i64) 3 wc w.heap.size (fun k_ => k_ ≠ gb418 ∧ k_ ≠ gb419 ∧ k_ ≠ gb420 ∧ k_ ≠ gb439 ∧ k_ ≠ gb440 ∧ k_ ≠ gb453 ∧ k_ ≠ gb454 ∧ k_ ≠ gb467 ∧ k_ ≠ gb468) (.slice Ao143 t457.length co143) t457) ∧ Aside0 (Kd.V k53 53 wc w.heap.size (fun k_ => k_ ≠ gb418 ∧ k_ ≠ gb419 ∧ k_ ≠ gb420 ∧ k_ ≠ gb439 ∧ k_ ≠ gb440 ∧ k_ ≠ gb453 ∧ k_ ≠ gb454 ∧ k_ ≠ gb467 ∧ k_ ≠ gb468) (.slice Ao144 t460.length co144) t460) ∧ Aside0 (wc.heap[gb418]? = some (.cells #[.int .i64 a0_0, .int .i64 a0_1, .int .i64 a0_2, .int .i64 a0_3] 23 (0, 0))) ∧ Aside0 (wc.heap[gb419]? = some (.cells #[.int .i64 a1_0, .int .i64 a1_1, (.slice A1_2 l1_2.length c1_2), (.slice A1_3 l1_3.length c1_3)] 27 (0, 0))) ∧ Aside0 (wc.heap[gb420]? = some (.cells #[.int .i64 a2_0, .int .i64 a2_1, .int .i64 a2_2] 47 (0, 0))) ∧ Aside0 (wc.heap[gb439]? = some (.cells #[.int .i64 t427, .int .i64 t428, (.slice Ao97 t429.length co97), (.slice Ao98 t432.length co98)] 27 (0, 0))) ∧ Aside0 (wc.heap[gb440]? = some (.cells #[.bool t435, .int .i64 t436, .int .i64 t437, .int .i64 t438] 32 (0, 0))) ∧ Aside0 (wc.heap[gb453]? = some (.cells #[.int .i64 t441, .int .i64 t442, (.slice Ao118 t443.length co118), (.slice Ao119 t446.length co119)] 27 (0, 0))) ∧ Aside0 (wc.heap[gb454]? = some (.cells #[.bool t449, .int .i64 t450, .int .i64 t451, .int .i64 t452] 32 (0, 0))) ∧ Aside0 (wc.heap[gb467]? = some (.cells #[.int .i64 t455, .int .i64 t456, (.slice Ao143 t457.length co143), (.slice Ao144 t460.length co144)] 27 (0, 0))) ∧ Aside0 (wc.heap[gb468]? = some (.cells #[.bool t463, .int .i64 t464, .int .i64 t465, .int .i64 t466] 32 (0, 0))) ∧ Aside0 (Below w.heap.size w wc))
        case first =>
          have H := HC82.out
          clear HC82
          by_cases c155 : t435 = true
          · subst c155
            rw [if_pos rfl] at H
            have H' := Aside0.mk H
            clear H
            have hnb156 := NB440_418.out
            have hnc156 := NB418_440.out
            have hnb157 := NB440_419.out
            have hnc157 := NB419_440.out
            have hnb158 := NB440_420.out
            have hnc158 := NB420_440.out
            have hnb159 := NB440_439.out
            have hnc159 := NB439_440.out
            have hnb160 := NB440_453.out
            have hnc160 := NB453_440.out
            have hnb161 := NB440_454.out
            have hnc161 := NB454_440.out
            have hnb162 := NB440_467.out
            have hnc162 := NB467_440.out
            have hnb163 := NB440_468.out
            have hnc163 := NB468_440.out
            obtain ⟨hcz164_0, hcz164_1, hcz164_2, hcz164_3⟩ := ce4 BK440
            obtain ⟨hfz164_0, hfz164_1, hfz164_2, hfz164_3⟩ := fr4 BK440
            have hnb165 := NB454_418.out
            have hnc165 := NB418_454.out
            have hnb166 := NB454_419.out
            have hnc166 := NB419_454.out
            have hnb167 := NB454_420.out
            have hnc167 := NB420_454.out
            have hnb168 := NB454_439.out
            have hnc168 := NB439_454.out
            have hnb169 := NB454_453.out
            have hnc169 := NB453_454.out
            have hnb170 := NB454_467.out
            have hnc170 := NB467_454.out
            have hnb171 := NB454_468.out
            have hnc171 := NB468_454.out
            obtain ⟨hcz172_0, hcz172_1, hcz172_2, hcz172_3⟩ := ce4 BK454
            obtain ⟨hfz172_0, hfz172_1, hfz172_2, hfz172_3⟩ := fr4 BK454
            go_wp2
            go_meet
            case rel => exact ⟨_, (t449), (by first | (with_reducible rfl) | rfl | (simp; done) | (simp [*]; done)), H', ⟨by have := HJ3.out; first | omega | exact Nat.le_refl _⟩, ⟨by (with_reducible repeat (first | apply Kd.V_alloc | apply Kd.V_drewN | apply Kd.V_drew)); exact HO431.out⟩, ⟨by (with_reducible repeat (first | apply Kd.V_alloc | apply Kd.V_drewN | apply Kd.V_drew)); exact HO434.out⟩, ⟨by (with_reducible repeat (first | apply Kd.V_alloc | apply Kd.V_drewN | apply Kd.V_drew)); exact HO445.out⟩, ⟨by (with_reducible repeat (first | apply Kd.V_alloc | apply Kd.V_drewN | apply Kd.V_drew)); exact HO448.out⟩, ⟨by (with_reducible repeat (first | apply Kd.V_alloc | apply Kd.V_drewN | apply Kd.V_drew)); exact HO459.out⟩, ⟨by (with_reducible repeat (first | apply Kd.V_alloc | apply Kd.V_drewN | apply Kd.V_drew)); exact HO462.out⟩, ⟨bo BK418⟩, ⟨bo BK419⟩, ⟨bo BK420⟩, ⟨bo BK439⟩, ⟨bo BK440⟩, ⟨bo BK453⟩, ⟨bo BK454⟩, ⟨bo BK467⟩, ⟨bo BK468⟩, ⟨bl HB⟩⟩
          · replace c155 := Bool.eq_false_iff.mpr c155
            subst c155
            rw [if_neg (show ¬ (false = true) by decide)] at H
            have H' := Aside0.mk H
            clear H
            have hnb173 := NB440_418.out
            have hnc173 := NB418_440.out
            have hnb174 := NB440_419.out
            have hnc174 := NB419_440.out
            have hnb175 := NB440_420.out
            have hnc175 := NB420_440.out
            have hnb176 := NB440_439.out
            have hnc176 := NB439_440.out
            have hnb177 := NB440_453.out
            have hnc177 := NB453_440.out
            have hnb178 := NB440_454.out
            have hnc178 := NB454_440.out
            have hnb179 := NB440_467.out
            have hnc179 := NB467_440.out
            have hnb180 := NB440_468.out
            have hnc180 := NB468_440.out
            obtain ⟨hcz181_0, hcz181_1, hcz181_2, hcz181_3⟩ := ce4 BK440
            obtain ⟨hfz181_0, hfz181_1, hfz181_2, hfz181_3⟩ := fr4 BK440
            go_wp2
            go_meet
            case rel => exact ⟨_, (false), (by first | (with_reducible rfl) | rfl | (simp; done) | (simp [*]; done)), H', ⟨by have := HJ3.out; first | omega | exact Nat.le_refl _⟩, ⟨by (with_reducible repeat (first | apply Kd.V_alloc | apply Kd.V_drewN | apply Kd.V_drew)); exact HO431.out⟩, ⟨by (with_reducible repeat (first | apply Kd.V_alloc | apply Kd.V_drewN | apply Kd.V_drew)); exact HO434.out⟩, ⟨by (with_reducible repeat (first | apply Kd.V_alloc | apply Kd.V_drewN | apply Kd.V_drew)); exact HO445.out⟩, ⟨by (with_reducible repeat (first | apply Kd.V_alloc | apply Kd.V_drewN | apply Kd.V_drew)); exact HO448.out⟩, ⟨by (with_reducible repeat (first | apply Kd.V_alloc | apply Kd.V_drewN | apply Kd.V_drew)); exact HO459.out⟩, ⟨by (with_reducible repeat (first | apply Kd.V_alloc | apply Kd.V_drewN | apply Kd.V_drew)); exact HO462.out⟩, ⟨bo BK418⟩, ⟨bo BK419⟩, ⟨bo BK420⟩, ⟨bo BK439⟩, ⟨bo BK440⟩, ⟨bo BK453⟩, ⟨bo BK454⟩, ⟨bo BK467⟩, ⟨bo BK468⟩, ⟨bl HB⟩⟩
        case rest =>
          clear HC82
          try clear c1
          try clear c2
          try clear p2
          try clear c3
          try clear c4
          try clear c5
          try clear c6
          try clear p6
          try clear c7
          try clear c8
          try clear c9
          try clear c10
          try clear c11
          try clear c12
          try clear c13
          try clear c14
          try clear c15
          try clear c16
          try clear c17
          try clear c18
          try clear c18b0
          try clear c19
          try clear c20
          try clear c23
          try clear c28
          try clear c29
          try clear c32
          try clear c37
          try clear c38
          try clear c41
          try clear c46
          try clear c47
          try clear c50
          try clear c55
          try clear c56
          try clear c59
          try clear c64
          try clear p64
          try clear c65
          try clear c68
          try clear c72
          try clear c73
          try clear c76
          try clear c83
          try clear c84
          try clear c86
          try clear c92
          try clear c93
          try clear c94
          try clear c95
          try clear c100
          try clear c101
          try clear c102
          try clear c111
          try clear c112
          try clear c113
          try clear c114
          try clear c115
          try clear c116
          try clear c121
          try clear c122
          try clear c123
          try clear c124
          try clear c125
          try clear c134
          try clear c135
          try clear c136
          try clear c137
          try clear c138
          try clear c139
          try clear c140
          try clear c141
          try clear c146
          try clear c147
          try clear c148
          try clear c149
          try clear c150
          try clear c151
          try clear c152
          try clear c155
          try clear c156
          try clear c157
          try clear c158
          try clear c159
          try clear c160
          try clear c161
          try clear c162
          try clear c163
          try clear c165
          try clear c166
          try clear c167
          try clear c168
          try clear c169
          try clear c170
          try clear c171
          try clear c173
          try clear c174
          try clear c175
          try clear c176
          try clear c177
          try clear c178
          try clear c179
          try clear c180
          try clear hcz103_0
          try clear hcz103_1
          try clear hcz103_2
          try clear hcz103_3
          try clear hcz105_0
          try clear hcz105_1
          try clear hcz105_2
          try clear hcz105_3
          try clear hcz106_0
          try clear hcz106_1
          try clear hcz106_2
          try clear hcz106_3
          try clear hcz107_0
          try clear hcz107_1
          try clear hcz107_2
          try clear hcz117_0
          try clear hcz117_1
          try clear hcz117_2
          try clear hcz117_3
          try clear hcz126_0
          try clear hcz126_1
          try clear hcz126_2
          try clear hcz126_3
          try clear hcz128_0
          try clear hcz128_1
          try clear hcz128_2
          try clear hcz128_3
          try clear hcz129_0
          try clear hcz129_1
          try clear hcz129_2
          try clear hcz129_3
          try clear hcz130_0
          try clear hcz130_1
          try clear hcz130_2
          try clear hcz142_0
          try clear hcz142_1
          try clear hcz142_2
          try clear hcz142_3
          try clear hcz153_0
          try clear hcz153_1
          try clear hcz153_2
          try clear hcz153_3
          try clear hcz164_0
          try clear hcz164_1
          try clear hcz164_2
          try clear hcz164_3
          try clear hcz172_0
          try clear hcz172_1
          try clear hcz172_2
          try clear hcz172_3
          try clear hcz181_0
          try clear hcz181_1
          try clear hcz181_2
          try clear hcz181_3
          try clear hcz21_0
          try clear hcz21_1
          try clear hcz21_2
          try clear hcz21_3
          try clear hcz24_0
          try clear hcz24_1
          try clear hcz24_2
          try clear hcz24_3
          try clear hcz25_0
          try clear hcz25_1
          try clear hcz25_2
          try clear hcz25_3
          try clear hcz27_0
          try clear hcz27_1
          try clear hcz27_2
          try clear hcz30_0
          try clear hcz30_1
          try clear hcz30_2
          try clear hcz30_3
          try clear hcz33_0
          try clear hcz33_1
          try clear hcz33_2
          try clear hcz33_3
          try clear hcz34_0
          try clear hcz34_1
          try clear hcz34_2
          try clear hcz34_3
          try clear hcz36_0
          try clear hcz36_1
          try clear hcz36_2
          try clear hcz39_0
          try clear hcz39_1
          try clear hcz39_2
          try clear hcz39_3
          try clear hcz42_0
          try clear hcz42_1
          try clear hcz42_2
          try clear hcz42_3
          try clear hcz43_0
          try clear hcz43_1
          try clear hcz43_2
          try clear hcz43_3
          try clear hcz45_0
          try clear hcz45_1
          try clear hcz45_2
          try clear hcz48_0
          try clear hcz48_1
          try clear hcz48_2
          try clear hcz48_3
          try clear hcz51_0
          try clear hcz51_1
          try clear hcz51_2
          try clear hcz51_3
          try clear hcz52_0
          try clear hcz52_1
          try clear hcz52_2
          try clear hcz52_3
          try clear hcz54_0
          try clear hcz54_1
          try clear hcz54_2
          try clear hcz57_0
          try clear hcz57_1
          try clear hcz57_2
          try clear hcz57_3
          try clear hcz60_0
          try clear hcz60_1
          try clear hcz60_2
          try clear hcz60_3
          try clear hcz61_0
          try clear hcz61_1
          try clear hcz61_2
          try clear hcz61_3
          try clear hcz63_0
          try clear hcz63_1
          try clear hcz63_2
          try clear hcz66_0
          try clear hcz66_1
          try clear hcz66_2
          try clear hcz66_3
          try clear hcz69_0
          try clear hcz69_1
          try clear hcz69_2
          try clear hcz69_3
          try clear hcz70_0
          try clear hcz70_1
          try clear hcz70_2
          try clear hcz70_3
          try clear hcz74_0
          try clear hcz74_1
          try clear hcz74_2
          try clear hcz74_3
          try clear hcz85_0
          try clear hcz85_1
          try clear hcz85_2
          try clear hcz85_3
          try clear hcz87_0
          try clear hcz87_1
          try clear hcz87_2
          try clear hcz87_3
          try clear hcz88_0
          try clear hcz88_1
          try clear hcz88_2
          try clear hcz96_0
          try clear hcz96_1
          try clear hcz96_2
          try clear hcz96_3
          try clear hfz103_0
          try clear hfz103_1
          try clear hfz103_2
          try clear hfz103_3
          try clear hfz105_0
          try clear hfz105_1
          try clear hfz105_2
          try clear hfz105_3
          try clear hfz106_0
          try clear hfz106_1
          try clear hfz106_2
          try clear hfz106_3
          try clear hfz107_0
          try clear hfz107_1
          try clear hfz107_2
          try clear hfz117_0
          try clear hfz117_1
          try clear hfz117_2
          try clear hfz117_3
          try clear hfz126_0
          try clear hfz126_1
          try clear hfz126_2
          try clear hfz126_3
          try clear hfz128_0
          try clear hfz128_1
          try clear hfz128_2
          try clear hfz128_3
          try clear hfz129_0
          try clear hfz129_1
          try clear hfz129_2
          try clear hfz129_3
          try clear hfz130_0
          try clear hfz130_1
          try clear hfz130_2
          try clear hfz142_0
          try clear hfz142_1
          try clear hfz142_2
          try clear hfz142_3
          try clear hfz153_0
          try clear hfz153_1
          try clear hfz153_2
          try clear hfz153_3
          try clear hfz164_0
          try clear hfz164_1
          try clear hfz164_2
          try clear hfz164_3
          try clear hfz172_0
          try clear hfz172_1
          try clear hfz172_2
          try clear hfz172_3
          try clear hfz181_0
          try clear hfz181_1
          try clear hfz181_2
          try clear hfz181_3
          try clear hfz21_0
          try clear hfz21_1
          try clear hfz21_2
          try clear hfz21_3
          try clear hfz24_0
          try clear hfz24_1
          try clear hfz24_2
          try clear hfz24_3
          try clear hfz25_0
          try clear hfz25_1
          try clear hfz25_2
          try clear hfz25_3
          try clear hfz27_0
          try clear hfz27_1
          try clear hfz27_2
          try clear hfz30_0
          try clear hfz30_1
          try clear hfz30_2
          try clear hfz30_3
          try clear hfz33_0
          try clear hfz33_1
          try clear hfz33_2
          try clear hfz33_3
          try clear hfz34_0
          try clear hfz34_1
          try clear hfz34_2
          try clear hfz34_3
          try clear hfz36_0
          try clear hfz36_1
          try clear hfz36_2
          try clear hfz39_0
          try clear hfz39_1
          try clear hfz39_2
          try clear hfz39_3
          try clear hfz42_0
          try clear hfz42_1
          try clear hfz42_2
          try clear hfz42_3
          try clear hfz43_0
          try clear hfz43_1
          try clear hfz43_2
          try clear hfz43_3
          try clear hfz45_0
          try clear hfz45_1
          try clear hfz45_2
          try clear hfz48_0
          try clear hfz48_1
          try clear hfz48_2
          try clear hfz48_3
          try clear hfz51_0
          try clear hfz51_1
          try clear hfz51_2
          try clear hfz51_3
          try clear hfz52_0
          try clear hfz52_1
          try clear hfz52_2
          try clear hfz52_3
          try clear hfz54_0
          try clear hfz54_1
          try clear hfz54_2
          try clear hfz57_0
          try clear hfz57_1
          try clear hfz57_2
          try clear hfz57_3
          try clear hfz60_0
          try clear hfz60_1
          try clear hfz60_2
          try clear hfz60_3
          try clear hfz61_0
          try clear hfz61_1
          try clear hfz61_2
          try clear hfz61_3
          try clear hfz63_0
          try clear hfz63_1
          try clear hfz63_2
          try clear hfz66_0
          try clear hfz66_1
          try clear hfz66_2
          try clear hfz66_3
          try clear hfz69_0
          try clear hfz69_1
          try clear hfz69_2
          try clear hfz69_3
          try clear hfz70_0
          try clear hfz70_1
          try clear hfz70_2
          try clear hfz70_3
          try clear hfz74_0
          try clear hfz74_1
          try clear hfz74_2
          try clear hfz74_3
          try clear hfz85_0
          try clear hfz85_1
          try clear hfz85_2
          try clear hfz85_3
          try clear hfz87_0
          try clear hfz87_1
          try clear hfz87_2
          try clear hfz87_3
          try clear hfz88_0
          try clear hfz88_1
          try clear hfz88_2
          try clear hfz96_0
          try clear hfz96_1
          try clear hfz96_2
          try clear hfz96_3
          try clear p2
          try clear p6
          try clear p64
          obtain ⟨kq, x13_81, rfl, HA, HJ81, HO_440002, HO_440003, HO_454002, HO_454003, HO_468002, HO_468003, BK418, BK419, BK420, BK439, BK440, BK453, BK454, BK467, BK468, HB⟩ := hcut
          cases kq with
          | zero => exact absurd HA.out (by simp [sandglasslaw11_FixedParts.j1])
          | succ kj81 =>
            have H := HA.out
            clear HA
            simp only [sandglasslaw11_FixedParts.j1] at H
            by_cases c182 : (x13_81 == t463) = true
            · rw [if_pos c182] at H
              have c182b0 : (x13_81 == t463) = true := c182
              (try (have c182b1 : decide (x13_81 = t463) = true := by simpa using c182))
              (try (have c182b2 : (x13_81 == t463) = true := by simpa using c182))
              clear c182
              by_cases c183 : x13_81 = true
              · subst c183
                rw [if_pos rfl] at H
                replace H := Option.bind_eq_some_iff.mp H
                obtain ⟨t469, A1840, H⟩ := H
                have A184 := Aside0.mk A1840
                clear A1840
                by_cases c185 : t469 = true
                · subst c185
                  rw [if_pos rfl] at H
                  by_cases c186 : (t449 == t463 && (t450 == t464 && (t451 == t465 && (t452 == t466)))) = true
                  · rw [if_pos c186] at H
                    have c186b0 : (t449 == t463 && (t450 == t464 && (t451 == t465 && (t452 == t466)))) = true := c186
                    (try (have c186b1 : decide (t449 = t463 && (t450 == t464 && (t451 == t465 && (t452 == t466)))) = true := by simpa using c186))
                    (try (have c186b2 : (t449 == t463 && (t450 == t464 && (t451 == t465 && (t452 == t466)))) = true := by simpa using c186))
                    clear c186
                    replace H := Option.bind_eq_some_iff.mp H
                    obtain ⟨t470, A1870, H⟩ := H
                    have A187 := Aside0.mk A1870
                    clear A1870
                    obtain rfl := Option.some.inj H
                    have hnb188 := NB468_418.out
                    have hnc188 := NB418_468.out
                    have hnb189 := NB468_419.out
                    have hnc189 := NB419_468.out
                    have hnb190 := NB468_420.out
                    have hnc190 := NB420_468.out
                    have hnb191 := NB468_439.out
                    have hnc191 := NB439_468.out
                    have hnb192 := NB468_440.out
                    have hnc192 := NB440_468.out
                    have hnb193 := NB468_453.out
                    have hnc193 := NB453_468.out
                    have hnb194 := NB468_454.out
                    have hnc194 := NB454_468.out
                    have hnb195 := NB468_467.out
                    have hnc195 := NB467_468.out
                    obtain ⟨hcz196_0, hcz196_1, hcz196_2, hcz196_3⟩ := ce4 BK468
                    obtain ⟨hfz196_0, hfz196_1, hfz196_2, hfz196_3⟩ := fr4 BK468
                    have hnb197 := NB453_418.out
                    have hnc197 := NB418_453.out
                    have hnb198 := NB453_419.out
                    have hnc198 := NB419_453.out
                    have hnb199 := NB453_420.out
                    have hnc199 := NB420_453.out
                    have hnb200 := NB453_439.out
                    have hnc200 := NB439_453.out
                    have hnb201 := NB453_440.out
                    have hnc201 := NB440_453.out
                    have hnb202 := NB453_454.out
                    have hnc202 := NB454_453.out
                    have hnb203 := NB453_467.out
                    have hnc203 := NB467_453.out
                    obtain ⟨hcz204_0, hcz204_1, hcz204_2, hcz204_3⟩ := ce4 BK453
                    obtain ⟨hfz204_0, hfz204_1, hfz204_2, hfz204_3⟩ := fr4 BK453
                    have hnb205 := NB467_418.out
                    have hnc205 := NB418_467.out
                    have hnb206 := NB467_419.out
                    have hnc206 := NB419_467.out
                    have hnb207 := NB467_420.out
                    have hnc207 := NB420_467.out
                    have hnb208 := NB467_439.out
                    have hnc208 := NB439_467.out
                    have hnb209 := NB467_440.out
                    have hnc209 := NB440_467.out
                    have hnb210 := NB467_454.out
                    have hnc210 := NB454_467.out
                    obtain ⟨hcz211_0, hcz211_1, hcz211_2, hcz211_3⟩ := ce4 BK467
                    obtain ⟨hfz211_0, hfz211_1, hfz211_2, hfz211_3⟩ := fr4 BK467
                    go_wp2_with (first | (go_at_call 12; (with_reducible refine (sandglassref10_Same.calls kj81 t441 t442 _ _ t443 _ _ t446 t455 t456 _ _ t457 _ _ t460 true _ ?side1 ?side2 ?side3 ?side4 ?side5 ?side6 ?side7 ?side8 A184.out).mono ?_); (case side1 => repeat (first | exact (Kd.V_reads' HO_454002.out).2.2 | (with_reducible refine Kd.C_alloc ?_ _) | (with_reducible refine Kd.C_drewN ?_ _) | (with_reducible refine Kd.C_drew ?_))); (case side2 => exact (Kd.V_reads' HO_454002.out).2.1); (case side3 => repeat (first | exact (Kd.V_reads' HO_454003.out).2.2 | (with_reducible refine Kd.C_alloc ?_ _) | (with_reducible refine Kd.C_drewN ?_ _) | (with_reducible refine Kd.C_drew ?_))); (case side4 => exact (Kd.V_reads' HO_454003.out).2.1); (case side5 => repeat (first | exact (Kd.V_reads' HO_468002.out).2.2 | (with_reducible refine Kd.C_alloc ?_ _) | (with_reducible refine Kd.C_drewN ?_ _) | (with_reducible refine Kd.C_drew ?_))); (case side6 => exact (Kd.V_reads' HO_468002.out).2.1); (case side7 => repeat (first | exact (Kd.V_reads' HO_468003.out).2.2 | (with_reducible refine Kd.C_alloc ?_ _) | (with_reducible refine Kd.C_drewN ?_ _) | (with_reducible refine Kd.C_drew ?_))); (case side8 => exact (Kd.V_reads' HO_468003.out).2.1); rintro e w212 ⟨rfl, hb⟩; replace HO_440002 := vb HO_440002 hb; replace HO_440003 := vb HO_440003 hb; replace HO_454002 := vb HO_454002 hb; replace HO_454003 := vb HO_454003 hb; replace HO_468002 := vb HO_468002 hb; replace HO_468003 := vb HO_468003 hb; replace BK418 := Aside0.mk (blk_below (bo BK418) hb); replace BK419 := Aside0.mk (blk_below (bo BK419) hb); replace BK420 := Aside0.mk (blk_below (bo BK420) hb); replace BK439 := Aside0.mk (blk_below (bo BK439) hb); replace BK440 := Aside0.mk (blk_below (bo BK440) hb); replace BK453 := Aside0.mk (blk_below (bo BK453) hb); replace BK454 := Aside0.mk (blk_below (bo BK454) hb); replace BK467 := Aside0.mk (blk_below (bo BK467) hb); replace BK468 := Aside0.mk (blk_below (bo BK468) hb); replace HB := Aside0.mk (below_step (bl HB) hb); (try clear hb); (try clear hb2); (try clear hk); (try clear hi); have hnb213 := NB454_418.out; have hnc213 := NB418_454.out; have hnb214 := NB454_419.out; have hnc214 := NB419_454.out; have hnb215 := NB454_420.out; have hnc215 := NB420_454.out; have hnb216 := NB454_439.out; have hnc216 := NB439_454.out; have hnb217 := NB454_440.out; have hnc217 := NB440_454.out; obtain ⟨hcz218_0, hcz218_1, hcz218_2, hcz218_3⟩ := ce4 BK454; obtain ⟨hfz218_0, hfz218_1, hfz218_2, hfz218_3⟩ := fr4 BK454; obtain ⟨hcz219_0, hcz219_1, hcz219_2, hcz219_3⟩ := ce4 BK468; obtain ⟨hfz219_0, hfz219_1, hfz219_2, hfz219_3⟩ := fr4 BK468) | (go_at_call 9; (with_reducible refine (sandglasslaw11_live.calls kj81  t470 _ A187.out).mono ?_); rintro e w220 ⟨rfl, hb⟩; replace HO_440002 := vb HO_440002 hb; replace HO_440003 := vb HO_440003 hb; replace HO_454002 := vb HO_454002 hb; replace HO_454003 := vb HO_454003 hb; replace HO_468002 := vb HO_468002 hb; replace HO_468003 := vb HO_468003 hb; replace BK418 := Aside0.mk (blk_below (bo BK418) hb); replace BK419 := Aside0.mk (blk_below (bo BK419) hb); replace BK420 := Aside0.mk (blk_below (bo BK420) hb); replace BK439 := Aside0.mk (blk_below (bo BK439) hb); replace BK440 := Aside0.mk (blk_below (bo BK440) hb); replace BK453 := Aside0.mk (blk_below (bo BK453) hb); replace BK454 := Aside0.mk (blk_below (bo BK454) hb); replace BK467 := Aside0.mk (blk_below (bo BK467) hb); replace BK468 := Aside0.mk (blk_below (bo BK468) hb); replace HB := Aside0.mk (below_step (bl HB) hb); (try clear hb); (try clear hb2); (try clear hk); (try clear hi)))
                    go_ret
                    exact ⟨by first | (with_reducible rfl) | rfl | (simp [errW_none, errW_some] <;> rfl) | (simp [*, errW_none, errW_some] <;> rfl), bl HB⟩
                  · rw [if_neg c186] at H
                    exact absurd H (by simp)
                · replace c185 := Bool.eq_false_iff.mpr c185
                  subst c185
                  rw [if_neg (show ¬ (false = true) by decide)] at H
                  exact absurd H (by simp)
              · replace c183 := Bool.eq_false_iff.mpr c183
                subst c183
                rw [if_neg (show ¬ (false = true) by decide)] at H
                replace H := Option.bind_eq_some_iff.mp H
                obtain ⟨t471, A2210, H⟩ := H
                have A221 := Aside0.mk A2210
                clear A2210
                obtain rfl := Option.some.inj H
                have hnb222 := NB468_418.out
                have hnc222 := NB418_468.out
                have hnb223 := NB468_419.out
                have hnc223 := NB419_468.out
                have hnb224 := NB468_420.out
                have hnc224 := NB420_468.out
                have hnb225 := NB468_439.out
                have hnc225 := NB439_468.out
                have hnb226 := NB468_440.out
                have hnc226 := NB440_468.out
                have hnb227 := NB468_453.out
                have hnc227 := NB453_468.out
                have hnb228 := NB468_454.out
                have hnc228 := NB454_468.out
                have hnb229 := NB468_467.out
                have hnc229 := NB467_468.out
                obtain ⟨hcz230_0, hcz230_1, hcz230_2, hcz230_3⟩ := ce4 BK468
                obtain ⟨hfz230_0, hfz230_1, hfz230_2, hfz230_3⟩ := fr4 BK468
                go_wp2_with (first | (go_at_call 9; (with_reducible refine (sandglasslaw11_live.calls kj81  t471 _ A221.out).mono ?_); rintro e w231 ⟨rfl, hb⟩; replace HO_440002 := vb HO_440002 hb; replace HO_440003 := vb HO_440003 hb; replace HO_454002 := vb HO_454002 hb; replace HO_454003 := vb HO_454003 hb; replace HO_468002 := vb HO_468002 hb; replace HO_468003 := vb HO_468003 hb; replace BK418 := Aside0.mk (blk_below (bo BK418) hb); replace BK419 := Aside0.mk (blk_below (bo BK419) hb); replace BK420 := Aside0.mk (blk_below (bo BK420) hb); replace BK439 := Aside0.mk (blk_below (bo BK439) hb); replace BK440 := Aside0.mk (blk_below (bo BK440) hb); replace BK453 := Aside0.mk (blk_below (bo BK453) hb); replace BK454 := Aside0.mk (blk_below (bo BK454) hb); replace BK467 := Aside0.mk (blk_below (bo BK467) hb); replace BK468 := Aside0.mk (blk_below (bo BK468) hb); replace HB := Aside0.mk (below_step (bl HB) hb); (try clear hb); (try clear hb2); (try clear hk); (try clear hi)))
                go_ret
                exact ⟨by first | (with_reducible rfl) | rfl | (simp [errW_none, errW_some] <;> rfl) | (simp [*, errW_none, errW_some] <;> rfl), bl HB⟩
            · rw [if_neg c182] at H
              exact absurd H (by simp)

end Go.Proofs.Ytlnadabohaobnaa.Q
