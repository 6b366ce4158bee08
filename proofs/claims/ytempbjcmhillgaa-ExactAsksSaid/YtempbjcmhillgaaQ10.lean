-- Laid by wip/tools/hprint.py, a program of this repo, over the kit's print; not a text of print.sh.
import Derived.Test.YtempbjcmhillgaaQ0
namespace Go.Proofs.Ytempbjcmhillgaa.Q
open Go.RowKit Go.Proofs.Ytempbjcmhillgaa.Zip Go.Proofs.YtempbjcmhillgaaW.PrintWords Go.Proofs.YtempbjcmhillgaaW.PrintLast Go.Proofs.YtempbjcmhillgaaW.PrintMore
attribute [local go_sem] max2_int min2_int max_two min_two max_three min_three max_four min_four   -- for this text's walks alone
set_option linter.unusedVariables false
set_option linter.unusedSimpArgs false

/-! ### exact_since: function 24 -/
def exact_since.l0 : Nat → List (S50) → Int → Int → Int → Int → Int → Int → Option ((List (S50)))
  | 0, _, _, _, _, _, _, _ => none
  | k + 1, x1, x2, x7, x116000, x116001, x116002, x116003 => if x7 < (x1.length : Int) then (if 0 ≤ x7 then (if ((rd_T50 x1 x7).f0) > (wrap64 (x2 - x116002)) then (if x7 ≤ (x1.length : Int) then (some (x1.drop (x7 : Int).toNat)) else (none)) else (exact_since.l0 k x1 x2 (wrap64 (x7 + 1)) x116000 x116001 x116002 x116003)) else (none)) else (if 0 ≤ x7 then (if x7 ≤ (x1.length : Int) then (some (x1.drop (x7 : Int).toNat)) else (none)) else (none))
def exact_since.f (k : Nat) (a0_0 : Int) (a0_1 : Int) (a0_2 : Int) (a0_3 : Int) (l1 : List (S50)) (a2 : Int) : Option ((List (S50))) := exact_since.l0 k l1 a2 0 a0_0 a0_1 a0_2 a0_3
theorem exact_since.mono_l : ∀ k, (∀ y0 y1 y2 y3 y4 y5 y6, LeO (exact_since.l0 k y0 y1 y2 y3 y4 y5 y6) (exact_since.l0 (k + 1) y0 y1 y2 y3 y4 y5 y6))
  | 0 => fun _ _ _ _ _ _ _ r h => by simp [exact_since.l0] at h
  | k + 1 => by
    have ih0 := exact_since.mono_l k
    · intro y0 y1 y2 y3 y4 y5 y6
      unfold exact_since.l0
      repeat' first
      | (with_reducible exact ih0 _ _ _ _ _ _ _)
      | (with_reducible exact LeO.refl _)
      | (with_reducible exact LeO.none _)
      | (with_reducible refine LeO.ite ?_ ?_)
      | (with_reducible refine LeO.bind ?_ (fun _ => ?_))
      | exact ih0 _ _ _ _ _ _ _
      | exact LeO.none _
      | refine LeO.ite ?_ ?_
      | refine LeO.bind ?_ (fun _ => ?_)
theorem exact_since.mono : ∀ a0 a1 a2 a3 a4 a5 k, LeO (exact_since.f k a0 a1 a2 a3 a4 a5) (exact_since.f (k + 1) a0 a1 a2 a3 a4 a5) := by
  intro a0 a1 a2 a3 a4 a5 k
  have ih0 := exact_since.mono_l k
  unfold exact_since.f
  repeat' first
      | (with_reducible exact ih0 _ _ _ _ _ _ _)
      | (with_reducible exact LeO.refl _)
      | (with_reducible exact LeO.none _)
      | (with_reducible refine LeO.ite ?_ ?_)
      | (with_reducible refine LeO.bind ?_ (fun _ => ?_))
      | exact ih0 _ _ _ _ _ _ _
      | exact LeO.none _
      | refine LeO.ite ?_ ?_
      | refine LeO.bind ?_ (fun _ => ?_)
set_option maxHeartbeats 8000000 in
set_option maxRecDepth 100000 in
theorem exact_since.calls (k : Nat) (a0_0 : Int) (a0_1 : Int) (a0_2 : Int) (a0_3 : Int) (P1_ : Nat → Prop) (A1 : Option Addr) (c1 : Nat) (l1 : List (S50)) (a2 : Int) (r : List (S50)) (w : World) (hs1 : Kd.V k50 50 w w.heap.size (fun k_ => P1_ k_) (.slice A1 l1.length c1) l1) (h : exact_since.f k a0_0 a0_1 a0_2 a0_3 l1 a2 = some r) :
  Calls Try.prog 24 #[.agg #[.int .i64 a0_0, .int .i64 a0_1, .int .i64 a0_2, .int .i64 a0_3], .slice A1 l1.length c1, .int .i64 a2] w fun e w' => ∃ v0_ : Value, e = .returned (v0_) ∧ Kd.V k50 50 w' w.heap.size (fun k_ => (P1_ k_ ∨ w.heap.size ≤ k_)) v0_ r ∧ Below w.heap.size w w' := by
 have hu23 := Try.underlying23
 have HO1 := Aside0.mk (show Kd.V k50 50 w w.heap.size (fun k_ => (P1_ k_ ∨ w.heap.size ≤ k_)) (.slice A1 l1.length c1) l1 from Kd.V_mono hs1 (fun k_ hk => .inl hk))
 have HB := Aside0.mk (Below.refl w.heap.size w)
 have H : (exact_since.l0 k l1 a2 0 a0_0 a0_1 a0_2 a0_3) = some r := h
 clear h
 have H' := Aside0.mk H
 clear H
 go_enter Try.func24, Try.ntmps24
 (try go_step3)
 go_wp2_with (first | ((with_reducible refine gate_dst (N := 3) rfl ?_); refine box_event ?hg (N := 3) ?hd (cs := #[.int .i64 a0_0, .int .i64 a0_1, .int .i64 a0_2, .int .i64 a0_3]) (t := 23) ?hr ?_; (case hd => rfl); (case hg => rfl); (case hr => first | (go_simp; done) | (go_simp; rfl)); intro gb115 hg w4 hbox hb; have BK115 := Aside0.mk (hbox); have GW115 := Aside0.mk ((by rw [hg]; exact (below_size (bl HB)) : w.heap.size ≤ gb115)); have GE115 := Aside0.mk ((by rw [hg]; exact (below_size (bl HB)) : w.heap.size ≤ gb115)); replace HO1 := ve HO1 hg hb; replace HB := Aside0.mk (below_step (bl HB) hb); clear hb hbox hg))
 repeat (go_quiet (first | ((with_reducible refine gate_dst (N := 3) rfl ?_); refine box_event ?hg (N := 3) ?hd (cs := #[.int .i64 a0_0, .int .i64 a0_1, .int .i64 a0_2, .int .i64 a0_3]) (t := 23) ?hr ?_; (case hd => rfl); (case hg => rfl); (case hr => first | (go_simp; done) | (go_simp; rfl)); intro gb115 hg w4 hbox hb; have BK115 := Aside0.mk (hbox); have GW115 := Aside0.mk ((by rw [hg]; exact (below_size (bl HB)) : w.heap.size ≤ gb115)); have GE115 := Aside0.mk ((by rw [hg]; exact (below_size (bl HB)) : w.heap.size ≤ gb115)); replace HO1 := ve HO1 hg hb; replace HB := Aside0.mk (below_step (bl HB) hb); clear hb hbox hg)); try go_wp2_with (first | ((with_reducible refine gate_dst (N := 3) rfl ?_); refine box_event ?hg (N := 3) ?hd (cs := #[.int .i64 a0_0, .int .i64 a0_1, .int .i64 a0_2, .int .i64 a0_3]) (t := 23) ?hr ?_; (case hd => rfl); (case hg => rfl); (case hr => first | (go_simp; done) | (go_simp; rfl)); intro gb115 hg w4 hbox hb; have BK115 := Aside0.mk (hbox); have GW115 := Aside0.mk ((by rw [hg]; exact (below_size (bl HB)) : w.heap.size ≤ gb115)); have GE115 := Aside0.mk ((by rw [hg]; exact (below_size (bl HB)) : w.heap.size ≤ gb115)); replace HO1 := ve HO1 hg hb; replace HB := Aside0.mk (below_step (bl HB) hb); clear hb hbox hg)))
 repeat (go_step3; try go_wp2)
 go_loopg [7] k (fun kq v7 w' => ∃ (x7_1 : Int), v7 = .int .i64 x7_1 ∧ Aside0 (exact_since.l0 kq l1 a2 x7_1 a0_0 a0_1 a0_2 a0_3 = some r) ∧ Aside0 (kq ≤ k) ∧ Aside0 (Kd.V k50 50 w' w.heap.size (fun k_ => (P1_ k_ ∨ w.heap.size ≤ k_) ∧ k_ ≠ gb115) (.slice A1 l1.length c1) l1) ∧ Aside0 (w'.heap[gb115]? = some (.cells #[.int .i64 a0_0, .int .i64 a0_1, .int .i64 a0_2, .int .i64 a0_3] 23 (0, 0))) ∧ Aside0 (Below w.heap.size w w'))
 case atStart => exact ⟨(0), (by first | (with_reducible rfl) | rfl | (simp; done) | (simp [*]; done)), H', ⟨Nat.le_refl _⟩, ⟨by (with_reducible repeat (first | apply Kd.V_alloc | apply Kd.V_drewN | apply Kd.V_drew)); exact HO1.out⟩, ⟨bo BK115⟩, ⟨bl HB⟩⟩
 case round =>
  clear H'
  try clear c1
  obtain ⟨x7_1, rfl, HA, HK1, HO_1, BK115, HB⟩ := hrel
  cases gk with
  | zero => exact absurd HA.out (by simp [exact_since.l0])
  | succ k1 =>
   have H := HA.out
   clear HA
   simp only [exact_since.l0] at H
   by_cases c5 : x7_1 < (l1.length : Int)
   ·rw [if_pos c5] at H
    have c5b0 : decide (x7_1 < (l1.length : Int)) = true := decide_eq_true c5
    clear c5
    by_cases c6 : 0 ≤ x7_1
    ·rw [if_pos c6] at H
     have c6b0 : decide (0 ≤ x7_1) = true := decide_eq_true c6
     clear c6
     by_cases c7 : ((rd_T50 l1 x7_1).f0) > (wrap64 (a2 - a0_2))
     ·rw [if_pos c7] at H
      have c7b0 : decide ((wrap64 (a2 - a0_2)) < ((rd_T50 l1 x7_1).f0)) = true := decide_eq_true c7
      clear c7
      have c8b0 := eq_true (of_decide_eq_true (by first | (with_reducible assumption) | assumption) : 0 ≤ x7_1)
      by_cases c9 : x7_1 ≤ (l1.length : Int)
      ·rw [if_pos c9] at H
       have c9b0 := eq_true c9
       have c9b1 : decide (x7_1 ≤ (l1.length : Int)) = true := decide_eq_true c9
       clear c9
       obtain ⟨y122, hy122⟩ : ∃ y_ : List (S50), y_ = (l1.drop (x7_1 : Int).toNat) := ⟨_, rfl⟩
       replace H : (some y122) = some r := by first | (rw [hy122]; with_reducible exact H) | (have H2_ := (Option.bind_some _ _).symm.trans H; rw [hy122]; with_reducible exact H2_) | (have H2_ := (Option.bind_some _ _).symm.trans H; with_reducible exact H2_) | with_reducible exact H | (rw [hy122]; exact H) | exact H
       have Ny122 := Aside0.mk hy122
       clear hy122
       obtain rfl := Option.some.inj H
       have p121 : 0 ≤ (x7_1 : Int) := of_decide_eq_true (by first | (with_reducible assumption) | assumption)
       have q121 : x7_1 < (l1.length : Int) := of_decide_eq_true (by first | (with_reducible assumption) | assumption)
       obtain ⟨ad121, e121, hx121_0, hx121_1⟩ := at_T50 (Kd.V_reads' HO_1.out).2.2 x7_1 p121 q121
       cases e121
       replace p121 := eq_true p121
       replace q121 := eq_true q121
       obtain ⟨hcz10_0, hcz10_1, hcz10_2, hcz10_3⟩ := ce4 BK115
       obtain ⟨hfz10_0, hfz10_1, hfz10_2, hfz10_3⟩ := fr4 BK115
       have q11 : (x7_1 : Int) ≤ ((l1.length : Int) : Int) := of_decide_eq_true (by first | (with_reducible assumption) | assumption)
       obtain ⟨i011, hi011, _, hsz11, _⟩ := info_parts info50
       have hroom11 : l1.length ≤ c1 := (Kd.V_reads' HO_1.out).2.1
       have hC11 : Kd.F k50 _ _ (some ad121) l1.length l1 := (Kd.V_at (base := w.heap.size) HO_1.out).2.2
       have q011 : (0 : Int) ≤ (x7_1 : Int) := of_decide_eq_true (by first | (with_reducible assumption) | assumption)
       have hcut11 := cut_from (P := Try.prog) 25 50 .i64 Try.underlying25 hi011 2 hsz11 (some ad121) l1.length c1 x7_1 q011 q11
       have hr11 := Kd.F_cut (m := (x7_1 : Int).toNat) (c := c1) hC11 (by omega) hroom11
       obtain ⟨A11, hA11⟩ : ∃ z_, z_ = (if c1 = (x7_1 : Int).toNat then (some ad121) else ((some ad121) : Option Addr).map (·.add ((x7_1 : Int).toNat * 2))) := ⟨_, rfl⟩
       obtain ⟨c11, hc11⟩ : ∃ z_, z_ = c1 - (x7_1 : Int).toNat := ⟨_, rfl⟩
       have hy11 : y122.length = l1.length - (x7_1 : Int).toNat := (by rw [Ny122.out, List.length_drop] <;> omega)
       rw [show (l1).drop (x7_1 : Int).toNat = y122 from Ny122.out.symm] at hr11
       replace hr11 : Kd.F k50 _ _ A11 y122.length y122 := (by rw [hA11]; exact hr11)
       rw [← hy11, ← hA11, ← hc11] at hcut11
       have HO126 := Aside0.mk (show Kd.V k50 50 _ w.heap.size _ (.slice A11 y122.length c11) y122 from Kd.V_mk (by rw [hy11, hc11]; exact Nat.sub_le_sub_right hroom11 _) hr11)
       have HC126 := Aside0.mk (show y122.length ≤ c11 from by rw [hy11, hc11]; exact Nat.sub_le_sub_right hroom11 _)
       clear hr11 hC11 hroom11 hi011 hsz11 hc11
       have KY11 := Aside0.mk hy11
       have KA11 := Aside0.mk hA11
       clear hy11 hA11
       replace q11 := eq_true q11
       go_wp2
       repeat (go_quiet (fail); try go_wp2)
       (try rw [Exit.noGoto_ret])
       go_ret
       exact ⟨_, by first | (with_reducible rfl) | rfl | (simp [errW_none, errW_some] <;> rfl) | (simp [*, errW_none, errW_some] <;> rfl), by (with_reducible repeat (first | apply Kd.V_alloc | apply Kd.V_drewN | apply Kd.V_drew)); exact Kd.V_mono HO126.out (fun _ hk => hk.1), bl HB⟩
      ·rw [if_neg c9] at H
       exact absurd H (by simp)
     ·rw [if_neg c7] at H
      have c7b0 : decide ((wrap64 (a2 - a0_2)) < ((rd_T50 l1 x7_1).f0)) = false := decide_eq_false c7
      clear c7
      have H' := Aside0.mk H
      clear H
      have p121 : 0 ≤ (x7_1 : Int) := of_decide_eq_true (by first | (with_reducible assumption) | assumption)
      have q121 : x7_1 < (l1.length : Int) := of_decide_eq_true (by first | (with_reducible assumption) | assumption)
      obtain ⟨ad121, e121, hx121_0, hx121_1⟩ := at_T50 (Kd.V_reads' HO_1.out).2.2 x7_1 p121 q121
      cases e121
      replace p121 := eq_true p121
      replace q121 := eq_true q121
      obtain ⟨hcz12_0, hcz12_1, hcz12_2, hcz12_3⟩ := ce4 BK115
      obtain ⟨hfz12_0, hfz12_1, hfz12_2, hfz12_3⟩ := fr4 BK115
      go_wp2
      repeat (go_quiet (fail); try go_wp2)
      go_roundg k1
      case measure => have := HK1.out; omega
      case rel => exact ⟨(wrap64 (x7_1 + 1)), (by first | (with_reducible rfl) | rfl | (simp; done) | (simp [*]; done)), H', ⟨by have := HK1.out; omega⟩, ⟨by (with_reducible repeat (first | apply Kd.V_alloc | apply Kd.V_drewN | apply Kd.V_drew)); exact HO_1.out⟩, ⟨bo BK115⟩, ⟨bl HB⟩⟩
    ·rw [if_neg c6] at H
     exact absurd H (by simp)
   ·rw [if_neg c5] at H
    have c5b0 : decide (x7_1 < (l1.length : Int)) = false := decide_eq_false c5
    clear c5
    by_cases c13 : 0 ≤ x7_1
    ·rw [if_pos c13] at H
     have c13b0 := eq_true c13
     have c13b1 : decide (0 ≤ x7_1) = true := decide_eq_true c13
     clear c13
     by_cases c14 : x7_1 ≤ (l1.length : Int)
     ·rw [if_pos c14] at H
      have c14b0 := eq_true c14
      have c14b1 : decide (x7_1 ≤ (l1.length : Int)) = true := decide_eq_true c14
      clear c14
      obtain ⟨y116, hy116⟩ : ∃ y_ : List (S50), y_ = (l1.drop (x7_1 : Int).toNat) := ⟨_, rfl⟩
      replace H : (some y116) = some r := by first | (rw [hy116]; with_reducible exact H) | (have H2_ := (Option.bind_some _ _).symm.trans H; rw [hy116]; with_reducible exact H2_) | (have H2_ := (Option.bind_some _ _).symm.trans H; with_reducible exact H2_) | with_reducible exact H | (rw [hy116]; exact H) | exact H
      have Ny116 := Aside0.mk hy116
      clear hy116
      obtain rfl := Option.some.inj H
      have q15 : (x7_1 : Int) ≤ ((l1.length : Int) : Int) := of_decide_eq_true (by first | (with_reducible assumption) | assumption)
      obtain ⟨i015, hi015, _, hsz15, _⟩ := info_parts info50
      have hroom15 : l1.length ≤ c1 := (Kd.V_reads' HO_1.out).2.1
      have hC15 : Kd.F k50 _ _ A1 l1.length l1 := (Kd.V_at (base := w.heap.size) HO_1.out).2.2
      have q015 : (0 : Int) ≤ (x7_1 : Int) := of_decide_eq_true (by first | (with_reducible assumption) | assumption)
      have hcut15 := cut_from (P := Try.prog) 25 50 .i64 Try.underlying25 hi015 2 hsz15 A1 l1.length c1 x7_1 q015 q15
      have hr15 := Kd.F_cut (m := (x7_1 : Int).toNat) (c := c1) hC15 (by omega) hroom15
      obtain ⟨A15, hA15⟩ : ∃ z_, z_ = (if c1 = (x7_1 : Int).toNat then A1 else (A1 : Option Addr).map (·.add ((x7_1 : Int).toNat * 2))) := ⟨_, rfl⟩
      obtain ⟨c15, hc15⟩ : ∃ z_, z_ = c1 - (x7_1 : Int).toNat := ⟨_, rfl⟩
      have hy15 : y116.length = l1.length - (x7_1 : Int).toNat := (by rw [Ny116.out, List.length_drop] <;> omega)
      rw [show (l1).drop (x7_1 : Int).toNat = y116 from Ny116.out.symm] at hr15
      replace hr15 : Kd.F k50 _ _ A15 y116.length y116 := (by rw [hA15]; exact hr15)
      rw [← hy15, ← hA15, ← hc15] at hcut15
      have HO120 := Aside0.mk (show Kd.V k50 50 _ w.heap.size _ (.slice A15 y116.length c15) y116 from Kd.V_mk (by rw [hy15, hc15]; exact Nat.sub_le_sub_right hroom15 _) hr15)
      have HC120 := Aside0.mk (show y116.length ≤ c15 from by rw [hy15, hc15]; exact Nat.sub_le_sub_right hroom15 _)
      clear hr15 hC15 hroom15 hi015 hsz15 hc15
      have KY15 := Aside0.mk hy15
      have KA15 := Aside0.mk hA15
      clear hy15 hA15
      replace q15 := eq_true q15
      go_wp2
      repeat (go_quiet (fail); try go_wp2)
      (try rw [Exit.noGoto_ret])
      go_ret
      exact ⟨_, by first | (with_reducible rfl) | rfl | (simp [errW_none, errW_some] <;> rfl) | (simp [*, errW_none, errW_some] <;> rfl), by (with_reducible repeat (first | apply Kd.V_alloc | apply Kd.V_drewN | apply Kd.V_drew)); exact Kd.V_mono HO120.out (fun _ hk => hk.1), bl HB⟩
     ·rw [if_neg c14] at H
      exact absurd H (by simp)
    ·rw [if_neg c13] at H
     exact absurd H (by simp)

end Go.Proofs.Ytempbjcmhillgaa.Q
