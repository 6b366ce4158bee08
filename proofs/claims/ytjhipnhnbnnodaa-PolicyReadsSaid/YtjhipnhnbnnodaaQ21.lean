-- Laid by wip/tools/hprint.py, a program of this repo, over the kit's print; not a text of print.sh.
import Derived.Test.YtjhipnhnbnnodaaQ0
import Derived.Test.YtjhipnhnbnnodaaQ6
import Derived.Test.YtjhipnhnbnnodaaQ20
namespace Go.Proofs.Ytjhipnhnbnnodaa.Q
open Go.RowKit Go.Proofs.Ytjhipnhnbnnodaa.Zip Go.Proofs.YtjhipnhnbnnodaaW.PrintWords Go.Proofs.YtjhipnhnbnnodaaW.PrintLast Go.Proofs.YtjhipnhnbnnodaaW.PrintMore
attribute [local go_sem] max2_int min2_int max_two min_two max_three min_three max_four min_four   -- for this text's walks alone
set_option linter.unusedVariables false
set_option linter.unusedSimpArgs false

/-! ### sandglassref09_Decode: function 20 -/
def sandglassref09_Decode.f (k : Nat) (a0 : ByteArray) : Option (Int × Int × Int × Int × Int) := if (a0.size : Int) < 10 then (some (0, 0, 0, 0, 2)) else (if (a0.size : Int) > 10 then (some (0, 0, 0, 0, 3)) else (if 1 ≤ 5 then (if 5 ≤ (a0.size : Int) then ((sandglassref02_Narrow.f k (a0.extract 1 5)).bind fun bt174 => (if 5 ≤ 9 then (if 9 ≤ (a0.size : Int) then ((sandglassref02_Narrow.f k (a0.extract 5 9)).bind fun bt176 => (if 0 < (a0.size : Int) then (if 9 < (a0.size : Int) then ((sandglassref09_Check.f k (wrap64 (bt a0 0)) (wrap64 (bt174.1)) (wrap64 (bt176.1)) (wrap64 (bt a0 9))).bind fun t179 => (if t179 = 0 then (some (wrap64 (bt a0 0), wrap64 (bt174.1), wrap64 (bt176.1), wrap64 (bt a0 9), 0)) else (some (0, 0, 0, 0, 3)))) else (none)) else (none))) else (none)) else (none))) else (none)) else (none)))
theorem sandglassref09_Decode.mono : ∀ a0 k, LeO (sandglassref09_Decode.f k a0) (sandglassref09_Decode.f (k + 1) a0) := by
  intro a0 k
  unfold sandglassref09_Decode.f
  repeat' first
      | (with_reducible exact sandglassref02_Narrow.mono _ _)
      | (with_reducible exact sandglassref09_Check.mono _ _ _ _ _)
      | (with_reducible exact LeO.refl _)
      | (with_reducible exact LeO.none _)
      | (with_reducible refine LeO.ite ?_ ?_)
      | (with_reducible refine LeO.bind ?_ (fun _ => ?_))
      | exact sandglassref02_Narrow.mono _ _
      | exact sandglassref09_Check.mono _ _ _ _ _
      | exact LeO.none _
      | refine LeO.ite ?_ ?_
      | refine LeO.bind ?_ (fun _ => ?_)
def sandglassref09_Decode.T7 : Bool × List (List Nat × List Nat) := (true, [([], []), ([0], [0]), ([1], [1]), ([], []), ([3], [3]), ([], []), ([5], [5]), ([], []), ([7], [7]), ([8], [8]), ([2, 4, 6, 9], [2, 4, 6, 9]), ([], []), ([11, 10, 0, 1, 2, 3, 4, 5, 6, 7, 8, 9, 10, 11], [10, 11])])
def sandglassref09_Decode.B7 : List Nat := [0, 1, 3, 0, 8, 0, 32, 0, 128, 384, 1023, 0, 4095]
theorem sandglassref09_Decode.tab7 : rtab .any (opsOf Try.f20 7) = sandglassref09_Decode.T7 := by kernel_rfl
theorem sandglassref09_Decode.bits7 : waitsOk sandglassref09_Decode.T7.2 sandglassref09_Decode.B7 = true := by kernel_rfl
set_option maxHeartbeats 8000000 in
set_option maxRecDepth 100000 in
theorem sandglassref09_Decode.calls (k : Nat) (a0 : ByteArray) (r1 : Int) (r2 : Int) (r3 : Int) (r4 : Int) (r5 : Int) (w : World) (h : sandglassref09_Decode.f k a0 = some (r1, r2, r3, r4, r5)) :
    Calls Try.prog 20 #[.string a0] w fun e w' => e = .returned (.tuple #[.agg #[.int .i64 r1, .int .i64 r2, .int .i64 r3, .int .i64 r4], .int .i64 r5]) ∧ Below w.heap.size w w' := by
  have hu23 := Try.underlying23
  have HB := Aside0.mk (Below.refl w.heap.size w)
  have H : (if (a0.size : Int) < 10 then (some (0, 0, 0, 0, 2)) else (if (a0.size : Int) > 10 then (some (0, 0, 0, 0, 3)) else (if 1 ≤ 5 then (if 5 ≤ (a0.size : Int) then ((sandglassref02_Narrow.f k (a0.extract 1 5)).bind fun bt174 => (if 5 ≤ 9 then (if 9 ≤ (a0.size : Int) then ((sandglassref02_Narrow.f k (a0.extract 5 9)).bind fun bt176 => (if 0 < (a0.size : Int) then (if 9 < (a0.size : Int) then ((sandglassref09_Check.f k (wrap64 (bt a0 0)) (wrap64 (bt174.1)) (wrap64 (bt176.1)) (wrap64 (bt a0 9))).bind fun t179 => (if t179 = 0 then (some (wrap64 (bt a0 0), wrap64 (bt174.1), wrap64 (bt176.1), wrap64 (bt a0 9), 0)) else (some (0, 0, 0, 0, 3)))) else (none)) else (none))) else (none)) else (none))) else (none)) else (none)))) = some (r1, r2, r3, r4, r5) := h
  clear h
  by_cases c2 : (a0.size : Int) < 10
  · rw [if_pos c2] at H
    have c2b0 : decide ((a0.size : Int) < 10) = true := decide_eq_true c2
    have c2b1 : decide (a0.size < 10) = true := decide_eq_true (by omega)
    clear c2
    simp only [Option.some.injEq, Prod.mk.injEq] at H
    obtain ⟨rfl, rfl, rfl, rfl, rfl⟩ := H
    go_enter Try.func20, Try.ntmps20
    go_wp2_with (first | ((with_reducible refine gate_dst (N := 2) rfl ?_); refine box_event ?hg (N := 2) ?hd (cs := #[.int .i64 0, .int .i64 0, .int .i64 0, .int .i64 0]) (t := 23) ?hr ?_; (case hd => rfl); (case hg => rfl); (case hr => first | (go_simp; done) | (go_simp; rfl)); intro gb173 hg w3 hbox hb; have BK173 := Aside0.mk (hbox); have GW173 := Aside0.mk ((by rw [hg]; exact (below_size (bl HB)) : w.heap.size ≤ gb173)); have GE173 := Aside0.mk ((by rw [hg]; exact (below_size (bl HB)) : w.heap.size ≤ gb173)); replace HB := Aside0.mk (below_step (bl HB) hb); clear hb hbox hg; obtain ⟨hcz4_0, hcz4_1, hcz4_2, hcz4_3⟩ := ce4 BK173; obtain ⟨hfz4_0, hfz4_1, hfz4_2, hfz4_3⟩ := fr4 BK173))
    refine bodyPost_ret (results_ct rfl _ _ gb173 23 #[.int .i64 0, .int .i64 0, .int .i64 0, .int .i64 0] (0, 0) _ rfl (by (with_reducible repeat (first | refine blk_drewN ?_ _ | refine blk_drew ?_ | refine blk_alloc ?_ _)); refine blk_put (cs := #[.int .i64 0, .int .i64 0, .int .i64 0, .int .i64 0]) ?_ 3 _ rfl; (with_reducible repeat (first | refine blk_drewN ?_ _ | refine blk_drew ?_ | refine blk_alloc ?_ _)); refine blk_put (cs := #[.int .i64 0, .int .i64 0, .int .i64 0, .int .i64 0]) ?_ 2 _ rfl; (with_reducible repeat (first | refine blk_drewN ?_ _ | refine blk_drew ?_ | refine blk_alloc ?_ _)); refine blk_put (cs := #[.int .i64 0, .int .i64 0, .int .i64 0, .int .i64 0]) ?_ 1 _ rfl; (with_reducible repeat (first | refine blk_drewN ?_ _ | refine blk_drew ?_ | refine blk_alloc ?_ _)); refine blk_put (cs := #[.int .i64 0, .int .i64 0, .int .i64 0, .int .i64 0]) ?_ 0 _ rfl; (with_reducible repeat (first | refine blk_drewN ?_ _ | refine blk_drew ?_ | refine blk_alloc ?_ _)); exact BK173.out) Try.underlying23 rfl (by kernel_rfl)) rfl ?_
    exact ⟨by first | (with_reducible rfl) | rfl | (simp [errW_none, errW_some] <;> rfl) | (simp [*, errW_none, errW_some] <;> rfl), bl HB⟩
  · rw [if_neg c2] at H
    have c2b0 : decide ((a0.size : Int) < 10) = false := decide_eq_false c2
    have c2b1 : decide (a0.size < 10) = false := decide_eq_false (by omega)
    clear c2
    by_cases c5 : (a0.size : Int) > 10
    · rw [if_pos c5] at H
      have c5b0 : decide (10 < (a0.size : Int)) = true := decide_eq_true c5
      have c5b1 : decide (10 < a0.size) = true := decide_eq_true (by omega)
      clear c5
      simp only [Option.some.injEq, Prod.mk.injEq] at H
      obtain ⟨rfl, rfl, rfl, rfl, rfl⟩ := H
      go_enter Try.func20, Try.ntmps20
      go_wp2_with (first | ((with_reducible refine gate_dst (N := 2) rfl ?_); refine box_event ?hg (N := 2) ?hd (cs := #[.int .i64 0, .int .i64 0, .int .i64 0, .int .i64 0]) (t := 23) ?hr ?_; (case hd => rfl); (case hg => rfl); (case hr => first | (go_simp; done) | (go_simp; rfl)); intro gb173 hg w6 hbox hb; have BK173 := Aside0.mk (hbox); have GW173 := Aside0.mk ((by rw [hg]; exact (below_size (bl HB)) : w.heap.size ≤ gb173)); have GE173 := Aside0.mk ((by rw [hg]; exact (below_size (bl HB)) : w.heap.size ≤ gb173)); replace HB := Aside0.mk (below_step (bl HB) hb); clear hb hbox hg; obtain ⟨hcz7_0, hcz7_1, hcz7_2, hcz7_3⟩ := ce4 BK173; obtain ⟨hfz7_0, hfz7_1, hfz7_2, hfz7_3⟩ := fr4 BK173))
      refine bodyPost_ret (results_ct rfl _ _ gb173 23 #[.int .i64 0, .int .i64 0, .int .i64 0, .int .i64 0] (0, 0) _ rfl (by (with_reducible repeat (first | refine blk_drewN ?_ _ | refine blk_drew ?_ | refine blk_alloc ?_ _)); refine blk_put (cs := #[.int .i64 0, .int .i64 0, .int .i64 0, .int .i64 0]) ?_ 3 _ rfl; (with_reducible repeat (first | refine blk_drewN ?_ _ | refine blk_drew ?_ | refine blk_alloc ?_ _)); refine blk_put (cs := #[.int .i64 0, .int .i64 0, .int .i64 0, .int .i64 0]) ?_ 2 _ rfl; (with_reducible repeat (first | refine blk_drewN ?_ _ | refine blk_drew ?_ | refine blk_alloc ?_ _)); refine blk_put (cs := #[.int .i64 0, .int .i64 0, .int .i64 0, .int .i64 0]) ?_ 1 _ rfl; (with_reducible repeat (first | refine blk_drewN ?_ _ | refine blk_drew ?_ | refine blk_alloc ?_ _)); refine blk_put (cs := #[.int .i64 0, .int .i64 0, .int .i64 0, .int .i64 0]) ?_ 0 _ rfl; (with_reducible repeat (first | refine blk_drewN ?_ _ | refine blk_drew ?_ | refine blk_alloc ?_ _)); exact BK173.out) Try.underlying23 rfl (by kernel_rfl)) rfl ?_
      exact ⟨by first | (with_reducible rfl) | rfl | (simp [errW_none, errW_some] <;> rfl) | (simp [*, errW_none, errW_some] <;> rfl), bl HB⟩
    · rw [if_neg c5] at H
      have c5b0 : decide (10 < (a0.size : Int)) = false := decide_eq_false c5
      have c5b1 : decide (10 < a0.size) = false := decide_eq_false (by omega)
      clear c5
      by_cases c8 : 1 ≤ 5
      · rw [if_pos c8] at H
        have c8b0 := eq_true c8
        have c8b1 : decide (1 ≤ 5) = true := decide_eq_true c8
        clear c8
        by_cases c9 : 5 ≤ (a0.size : Int)
        · rw [if_pos c9] at H
          have c9b0 := eq_true c9
          have c9b1 : decide (5 ≤ (a0.size : Int)) = true := decide_eq_true c9
          clear c9
          replace H := Option.bind_eq_some_iff.mp H
          obtain ⟨⟨t174, t175⟩, A100, H⟩ := H
          have A10 := Aside0.mk A100
          clear A100
          by_cases c11 : 5 ≤ 9
          · rw [if_pos c11] at H
            have c11b0 := eq_true c11
            have c11b1 : decide (5 ≤ 9) = true := decide_eq_true c11
            clear c11
            by_cases c12 : 9 ≤ (a0.size : Int)
            · rw [if_pos c12] at H
              have c12b0 := eq_true c12
              have c12b1 : decide (9 ≤ (a0.size : Int)) = true := decide_eq_true c12
              clear c12
              replace H := Option.bind_eq_some_iff.mp H
              obtain ⟨⟨t176, t177⟩, A130, H⟩ := H
              have A13 := Aside0.mk A130
              clear A130
              by_cases c14 : 0 < (a0.size : Int)
              · rw [if_pos c14] at H
                have c14b0 : decide (0 < (a0.size : Int)) = true := decide_eq_true c14
                have c14b1 : decide (0 < a0.size) = true := decide_eq_true (by omega)
                clear c14
                by_cases c16 : 9 < (a0.size : Int)
                · rw [if_pos c16] at H
                  have c16b0 : decide (9 < (a0.size : Int)) = true := decide_eq_true c16
                  have c16b1 : decide (9 < a0.size) = true := decide_eq_true (by omega)
                  clear c16
                  replace H := Option.bind_eq_some_iff.mp H
                  obtain ⟨t179, A180, H⟩ := H
                  have A18 := Aside0.mk A180
                  clear A180
                  by_cases c19 : t179 = 0
                  · rw [if_pos c19] at H
                    have c19b0 : (t179 == 0) = true := beq_iff_eq.mpr c19
                    have c19b1 : (t179 != 0) = false := bne_eq_false_iff_eq.mpr c19
                    clear c19
                    simp only [Option.some.injEq, Prod.mk.injEq] at H
                    obtain ⟨rfl, rfl, rfl, rfl, rfl⟩ := H
                    go_enter Try.func20, Try.ntmps20
                    try go_wp2_with (first | ((with_reducible refine gate_dst (N := 2) rfl ?_); refine box_event ?hg (N := 2) ?hd (cs := #[.int .i64 0, .int .i64 0, .int .i64 0, .int .i64 0]) (t := 23) ?hr ?_; (case hd => rfl); (case hg => rfl); (case hr => first | (go_simp; done) | (go_simp; rfl)); intro gb173 hg w20 hbox hb; have BK173 := Aside0.mk (hbox); have GW173 := Aside0.mk ((by rw [hg]; exact (below_size (bl HB)) : w.heap.size ≤ gb173)); have GE173 := Aside0.mk ((by rw [hg]; exact (below_size (bl HB)) : w.heap.size ≤ gb173)); replace HB := Aside0.mk (below_step (bl HB) hb); clear hb hbox hg) | ((with_reducible refine gate_callee (f := 26) rfl ?_); refine goesL_ (some 20) rfl rfl Try.func26 (by kernel_rfl) rfl #[.string (a0.extract 1 5)] rfl (by (try simp only [List.map_toArray, List.map_cons, List.map_nil]); first | done | rfl | (simp only [List.length_drop, List.length_take]; rfl)) ?_; (with_reducible refine (sandglassref02_Narrow.calls k (a0.extract 1 5) t174 t175 _ A10.out).mono ?_); rintro e w' ⟨rfl, ⟨nd, rfl⟩⟩; refine ⟨_, rfl, ?_⟩; (try (rw [drewN_self w20]; generalize hq_ : World.drewN w20 _ = w20; replace BK173 : Aside0 (w20.heap[gb173]? = some (.cells #[.int .i64 0, .int .i64 0, .int .i64 0, .int .i64 0] 23 (0, 0))) := ⟨by rw [← hq_]; exact (bo BK173)⟩; replace HB : Aside0 (Below w.heap.size w w20) := ⟨by rw [← hq_]; exact (bl HB)⟩; clear hq_))) | ((with_reducible refine gate_callee (f := 26) rfl ?_); refine goesL_ (some 26) rfl rfl Try.func26 (by kernel_rfl) rfl #[.string (a0.extract 5 9)] rfl (by (try simp only [List.map_toArray, List.map_cons, List.map_nil]); first | done | rfl | (simp only [List.length_drop, List.length_take]; rfl)) ?_; (with_reducible refine (sandglassref02_Narrow.calls k (a0.extract 5 9) t176 t177 _ A13.out).mono ?_); rintro e w' ⟨rfl, ⟨nd, rfl⟩⟩; refine ⟨_, rfl, ?_⟩; (try (rw [drewN_self w20]; generalize hq_ : World.drewN w20 _ = w20; replace BK173 : Aside0 (w20.heap[gb173]? = some (.cells #[.int .i64 0, .int .i64 0, .int .i64 0, .int .i64 0] 23 (0, 0))) := ⟨by rw [← hq_]; exact (bo BK173)⟩; replace HB : Aside0 (Below w.heap.size w w20) := ⟨by rw [← hq_]; exact (bl HB)⟩; clear hq_))))
                    replace BK173 := Aside0.mk (blk_drew BK173.out)
                    replace HB := Aside0.mk (below_drew1 HB.out)
                    have p15 : 0 ≤ (0 : Int) := (by omega)
                    have q15 : 0 < a0.size := (by have : (0 : Int) < (a0.size : Int) := of_decide_eq_true (by first | (with_reducible assumption) | assumption); omega)
                    have hx15 : ∀ h : 0 < a0.size, ((a0[0]'h).toNat : Int) = bt a0 0 := bt_at a0 0
                    clear p15
                    have qi15 : (0 < (a0.size : Int)) = True := eq_true (of_decide_eq_true (by first | (with_reducible assumption) | assumption))
                    replace q15 := eq_true q15
                    have p17 : 0 ≤ (9 : Int) := (by omega)
                    have q17 : 9 < a0.size := (by have : (9 : Int) < (a0.size : Int) := of_decide_eq_true (by first | (with_reducible assumption) | assumption); omega)
                    have hx17 : ∀ h : 9 < a0.size, ((a0[9]'h).toNat : Int) = bt a0 9 := bt_at a0 9
                    clear p17
                    have qi17 : (9 < (a0.size : Int)) = True := eq_true (of_decide_eq_true (by first | (with_reducible assumption) | assumption))
                    replace q17 := eq_true q17
                    refine start_ (n := 13) (S := fun w' => True) (ds := []) #[false, false, false, false, false, false, false, false, false, false, false, false, false] (by kernel_rfl) rfl rfl trivial (fun hHeld => ?_); refine with_tabW sandglassref09_Decode.tab7 sandglassref09_Decode.bits7 (fun HT_ HW_ => ?_)
                    generalize w20.drew = w21 at BK173 HB hHeld ⊢
                    refine pureA 0 29 HT_ ?_
                    refine pureA 3 32 HT_ ?_
                    refine pureA 4 33 HT_ ?_
                    refine pureA 5 34 HT_ ?_
                    refine pureA 6 35 HT_ ?_
                    refine pureA 7 36 HT_ ?_
                    refine take_ (i := 1) (N := some 30) (v := ?_) (a' := ?_) #[true, true, false, true, true, true, true, true, false, false, false, false, false] rfl rfl (take_ofW HT_.out HW_.out (by kernel_rfl)) (fun _ _ _ h => h) (Or.inl ⟨by rfl, ?_⟩) hHeld ?_ ?_
                    rotate_left
                    · intro w' _
                      go_simp
                      with_reducible rfl
                    rotate_left
                    · simp only [Act.put, List.setIfInBounds_toArray, List.set_cons_zero, List.set_cons_succ, i64_w, i32_w]
                      rfl
                    refine pureA 2 31 HT_ ?_
                    refine take_ (i := 8) (N := some 37) (v := ?_) (a' := ?_) #[true, true, true, true, true, true, true, true, true, false, false, false, false] rfl rfl (take_ofW HT_.out HW_.out (by kernel_rfl)) (fun _ _ _ h => h) (Or.inl ⟨by rfl, ?_⟩) hHeld ?_ ?_
                    rotate_left
                    · intro w' _
                      go_simp
                      with_reducible rfl
                    rotate_left
                    · simp only [Act.put, List.setIfInBounds_toArray, List.set_cons_zero, List.set_cons_succ, i64_w, i32_w]
                      rfl
                    refine pureA 9 38 HT_ ?_
                    refine pureA 10 39 HT_ ?_
                    refine one_ (i := 11) (N := some 8) #[true, true, true, true, true, true, true, true, true, true, true, true, false] rfl rfl (one_of HT_.out (by kernel_rfl)) (by decide) (fun K hK => ?_)
                    refine box_step ?hg (N := 8) ?hd (cs := #[.int .i64 0, .int .i64 0, .int .i64 0, .int .i64 0]) (t := 23) ?hr ?_; (case hd => rfl); (case hg => rfl); (case hr => first | (go_simp; done) | (go_simp; rfl))
                    intro gb178 hg w22 hbox hb
                    have BK178 := Aside0.mk (hbox)
                    have GW178 := Aside0.mk ((by rw [hg]; exact (below_size (bl HB)) : w.heap.size ≤ gb178))
                    have GE178 := Aside0.mk ((by rw [hg]; exact (below_size (bl HB)) : w.heap.size ≤ gb178))
                    have NB173_178 := nb BK173 hg
                    have NB178_173 := bn BK173 hg
                    replace BK173 := Aside0.mk (blk_below (bo BK173) hb)
                    replace HB := Aside0.mk (below_step (bl HB) hb)
                    clear hb hbox hg
                    refine hK.out _ _ trivial (fun hHeld => ?_)
                    clear hK K
                    refine norm_ (a' := ?_) ?_ ?_
                    rotate_left
                    · show Act.put _ (some 8) _ = _
                      simp only [Act.put, List.setIfInBounds_toArray, List.set_cons_zero, List.set_cons_succ, i64_w, i32_w]
                      rfl
                    refine one_ (i := 12) (N := none) #[true, true, true, true, true, true, true, true, true, true, true, true, true] rfl rfl (one_of HT_.out (by kernel_rfl)) (by decide) (fun K hK => ?_)
                    have hs23 : w22.cell? ⟨gb178, 0, none⟩ = some (.int .i64 0) := (blk_cell BK178.out 0).trans rfl
                    have hfs23 := blk_frozen BK178.out 0
                    have hns23_0 := NB173_178.out
                    have hms23_0 := NB178_173.out
                    have hs24 : w22.cell? ⟨gb178, 1, none⟩ = some (.int .i64 0) := (blk_cell BK178.out 1).trans rfl
                    have hfs24 := blk_frozen BK178.out 1
                    have hns24_0 := NB173_178.out
                    have hms24_0 := NB178_173.out
                    have hs25 : w22.cell? ⟨gb178, 2, none⟩ = some (.int .i64 0) := (blk_cell BK178.out 2).trans rfl
                    have hfs25 := blk_frozen BK178.out 2
                    have hns25_0 := NB173_178.out
                    have hms25_0 := NB178_173.out
                    have hs26 : w22.cell? ⟨gb178, 3, none⟩ = some (.int .i64 0) := (blk_cell BK178.out 3).trans rfl
                    have hfs26 := blk_frozen BK178.out 3
                    have hns26_0 := NB173_178.out
                    have hms26_0 := NB178_173.out
                    refine skip_ (w1 := ?_) (by rfl) rfl ?_ ?_
                    rotate_left
                    · go_simp
                      rfl
                    refine hK.out _ _ trivial (fun hHeld => ?_)
                    clear hK K
                    refine done_ (done_of HT_.out (by kernel_rfl)) ?_
                    have hnb27 := NB178_173.out
                    have hnc27 := NB173_178.out
                    obtain ⟨hcz28_0, hcz28_1, hcz28_2, hcz28_3⟩ := ce4 BK178
                    obtain ⟨hfz28_0, hfz28_1, hfz28_2, hfz28_3⟩ := fr4 BK178
                    try go_wp2_with (first | ((with_reducible refine gate_callee (f := 11) rfl ?_); refine goesL_ (some 41) rfl rfl Try.func11 (by kernel_rfl) rfl #[.agg #[.int .i64 (wrap64 (bt a0 0)), .int .i64 (wrap64 (t174)), .int .i64 (wrap64 (t176)), .int .i64 (wrap64 (bt a0 9))]] rfl (by (try simp only [List.map_toArray, List.map_cons, List.map_nil]); first | done | rfl | (simp only [List.length_drop, List.length_take]; rfl)) ?_; (with_reducible refine (sandglassref09_Check.calls k (wrap64 (bt a0 0)) (wrap64 (t174)) (wrap64 (t176)) (wrap64 (bt a0 9)) t179 _ A18.out).mono ?_); rintro e w29 ⟨rfl, hb⟩; refine ⟨_, rfl, ?_⟩; replace BK173 := Aside0.mk (blk_below (g := gb173) (o := .cells #[.int .i64 0, .int .i64 0, .int .i64 0, .int .i64 0] 23 (0, 0)) (by (with_reducible repeat (first | refine blk_drewN ?_ _ | refine blk_drew ?_ | refine blk_alloc ?_ _)); refine blk_far ?_ NB173_178.out _; (with_reducible repeat (first | refine blk_drewN ?_ _ | refine blk_drew ?_ | refine blk_alloc ?_ _)); refine blk_far ?_ NB173_178.out _; (with_reducible repeat (first | refine blk_drewN ?_ _ | refine blk_drew ?_ | refine blk_alloc ?_ _)); refine blk_far ?_ NB173_178.out _; (with_reducible repeat (first | refine blk_drewN ?_ _ | refine blk_drew ?_ | refine blk_alloc ?_ _)); refine blk_far ?_ NB173_178.out _; (with_reducible repeat (first | refine blk_drewN ?_ _ | refine blk_drew ?_ | refine blk_alloc ?_ _)); exact BK173.out) hb); replace BK178 := Aside0.mk (blk_below (g := gb178) (o := .cells #[.int .i64 (wrap64 (bt a0 0)), .int .i64 (wrap64 (t174)), .int .i64 (wrap64 (t176)), .int .i64 (wrap64 (bt a0 9))] 23 (0, 0)) (by (with_reducible repeat (first | refine blk_drewN ?_ _ | refine blk_drew ?_ | refine blk_alloc ?_ _)); refine blk_put (cs := #[.int .i64 (wrap64 (bt a0 0)), .int .i64 (wrap64 (t174)), .int .i64 (wrap64 (t176)), .int .i64 0]) ?_ 3 _ rfl; (with_reducible repeat (first | refine blk_drewN ?_ _ | refine blk_drew ?_ | refine blk_alloc ?_ _)); refine blk_put (cs := #[.int .i64 (wrap64 (bt a0 0)), .int .i64 (wrap64 (t174)), .int .i64 0, .int .i64 0]) ?_ 2 _ rfl; (with_reducible repeat (first | refine blk_drewN ?_ _ | refine blk_drew ?_ | refine blk_alloc ?_ _)); refine blk_put (cs := #[.int .i64 (wrap64 (bt a0 0)), .int .i64 0, .int .i64 0, .int .i64 0]) ?_ 1 _ rfl; (with_reducible repeat (first | refine blk_drewN ?_ _ | refine blk_drew ?_ | refine blk_alloc ?_ _)); refine blk_put (cs := #[.int .i64 0, .int .i64 0, .int .i64 0, .int .i64 0]) ?_ 0 _ rfl; (with_reducible repeat (first | refine blk_drewN ?_ _ | refine blk_drew ?_ | refine blk_alloc ?_ _)); exact BK178.out) hb); replace HB := Aside0.mk (below_step (bl HB) hb); (try clear hb); (try clear hb2); (try clear hk); (try clear hi); obtain ⟨hcz30_0, hcz30_1, hcz30_2, hcz30_3⟩ := ce4 BK178; obtain ⟨hfz30_0, hfz30_1, hfz30_2, hfz30_3⟩ := fr4 BK178; obtain ⟨hcz31_0, hcz31_1, hcz31_2, hcz31_3⟩ := ce4 BK173; obtain ⟨hfz31_0, hfz31_1, hfz31_2, hfz31_3⟩ := fr4 BK173))
                    refine bodyPost_ret (results_ct rfl _ _ gb173 23 #[.int .i64 (wrap64 (bt a0 0)), .int .i64 (wrap64 (t174)), .int .i64 (wrap64 (t176)), .int .i64 (wrap64 (bt a0 9))] (0, 0) _ rfl (by (with_reducible repeat (first | refine blk_drewN ?_ _ | refine blk_drew ?_ | refine blk_alloc ?_ _)); refine blk_put (cs := #[.int .i64 (wrap64 (bt a0 0)), .int .i64 (wrap64 (t174)), .int .i64 (wrap64 (t176)), .int .i64 0]) ?_ 3 _ rfl; (with_reducible repeat (first | refine blk_drewN ?_ _ | refine blk_drew ?_ | refine blk_alloc ?_ _)); refine blk_put (cs := #[.int .i64 (wrap64 (bt a0 0)), .int .i64 (wrap64 (t174)), .int .i64 0, .int .i64 0]) ?_ 2 _ rfl; (with_reducible repeat (first | refine blk_drewN ?_ _ | refine blk_drew ?_ | refine blk_alloc ?_ _)); refine blk_put (cs := #[.int .i64 (wrap64 (bt a0 0)), .int .i64 0, .int .i64 0, .int .i64 0]) ?_ 1 _ rfl; (with_reducible repeat (first | refine blk_drewN ?_ _ | refine blk_drew ?_ | refine blk_alloc ?_ _)); refine blk_put (cs := #[.int .i64 0, .int .i64 0, .int .i64 0, .int .i64 0]) ?_ 0 _ rfl; (with_reducible repeat (first | refine blk_drewN ?_ _ | refine blk_drew ?_ | refine blk_alloc ?_ _)); exact BK173.out) Try.underlying23 rfl (by kernel_rfl)) rfl ?_
                    exact ⟨by first | (with_reducible rfl) | rfl | (simp [errW_none, errW_some] <;> rfl) | (simp [*, errW_none, errW_some] <;> rfl), bl HB⟩
                  · rw [if_neg c19] at H
                    have c19b0 : (t179 == 0) = false := beq_eq_false_iff_ne.mpr c19
                    have c19b1 : (t179 != 0) = true := bne_iff_ne.mpr c19
                    simp only [Option.some.injEq, Prod.mk.injEq] at H
                    obtain ⟨rfl, rfl, rfl, rfl, rfl⟩ := H
                    go_enter Try.func20, Try.ntmps20
                    try go_wp2_with (first | ((with_reducible refine gate_dst (N := 2) rfl ?_); refine box_event ?hg (N := 2) ?hd (cs := #[.int .i64 0, .int .i64 0, .int .i64 0, .int .i64 0]) (t := 23) ?hr ?_; (case hd => rfl); (case hg => rfl); (case hr => first | (go_simp; done) | (go_simp; rfl)); intro gb173 hg w32 hbox hb; have BK173 := Aside0.mk (hbox); have GW173 := Aside0.mk ((by rw [hg]; exact (below_size (bl HB)) : w.heap.size ≤ gb173)); have GE173 := Aside0.mk ((by rw [hg]; exact (below_size (bl HB)) : w.heap.size ≤ gb173)); replace HB := Aside0.mk (below_step (bl HB) hb); clear hb hbox hg) | ((with_reducible refine gate_callee (f := 26) rfl ?_); refine goesL_ (some 20) rfl rfl Try.func26 (by kernel_rfl) rfl #[.string (a0.extract 1 5)] rfl (by (try simp only [List.map_toArray, List.map_cons, List.map_nil]); first | done | rfl | (simp only [List.length_drop, List.length_take]; rfl)) ?_; (with_reducible refine (sandglassref02_Narrow.calls k (a0.extract 1 5) t174 t175 _ A10.out).mono ?_); rintro e w' ⟨rfl, ⟨nd, rfl⟩⟩; refine ⟨_, rfl, ?_⟩; (try (rw [drewN_self w32]; generalize hq_ : World.drewN w32 _ = w32; replace BK173 : Aside0 (w32.heap[gb173]? = some (.cells #[.int .i64 0, .int .i64 0, .int .i64 0, .int .i64 0] 23 (0, 0))) := ⟨by rw [← hq_]; exact (bo BK173)⟩; replace HB : Aside0 (Below w.heap.size w w32) := ⟨by rw [← hq_]; exact (bl HB)⟩; clear hq_))) | ((with_reducible refine gate_callee (f := 26) rfl ?_); refine goesL_ (some 26) rfl rfl Try.func26 (by kernel_rfl) rfl #[.string (a0.extract 5 9)] rfl (by (try simp only [List.map_toArray, List.map_cons, List.map_nil]); first | done | rfl | (simp only [List.length_drop, List.length_take]; rfl)) ?_; (with_reducible refine (sandglassref02_Narrow.calls k (a0.extract 5 9) t176 t177 _ A13.out).mono ?_); rintro e w' ⟨rfl, ⟨nd, rfl⟩⟩; refine ⟨_, rfl, ?_⟩; (try (rw [drewN_self w32]; generalize hq_ : World.drewN w32 _ = w32; replace BK173 : Aside0 (w32.heap[gb173]? = some (.cells #[.int .i64 0, .int .i64 0, .int .i64 0, .int .i64 0] 23 (0, 0))) := ⟨by rw [← hq_]; exact (bo BK173)⟩; replace HB : Aside0 (Below w.heap.size w w32) := ⟨by rw [← hq_]; exact (bl HB)⟩; clear hq_))))
                    replace BK173 := Aside0.mk (blk_drew BK173.out)
                    replace HB := Aside0.mk (below_drew1 HB.out)
                    have p15 : 0 ≤ (0 : Int) := (by omega)
                    have q15 : 0 < a0.size := (by have : (0 : Int) < (a0.size : Int) := of_decide_eq_true (by first | (with_reducible assumption) | assumption); omega)
                    have hx15 : ∀ h : 0 < a0.size, ((a0[0]'h).toNat : Int) = bt a0 0 := bt_at a0 0
                    clear p15
                    have qi15 : (0 < (a0.size : Int)) = True := eq_true (of_decide_eq_true (by first | (with_reducible assumption) | assumption))
                    replace q15 := eq_true q15
                    have p17 : 0 ≤ (9 : Int) := (by omega)
                    have q17 : 9 < a0.size := (by have : (9 : Int) < (a0.size : Int) := of_decide_eq_true (by first | (with_reducible assumption) | assumption); omega)
                    have hx17 : ∀ h : 9 < a0.size, ((a0[9]'h).toNat : Int) = bt a0 9 := bt_at a0 9
                    clear p17
                    have qi17 : (9 < (a0.size : Int)) = True := eq_true (of_decide_eq_true (by first | (with_reducible assumption) | assumption))
                    replace q17 := eq_true q17
                    refine start_ (n := 13) (S := fun w' => True) (ds := []) #[false, false, false, false, false, false, false, false, false, false, false, false, false] (by kernel_rfl) rfl rfl trivial (fun hHeld => ?_); refine with_tabW sandglassref09_Decode.tab7 sandglassref09_Decode.bits7 (fun HT_ HW_ => ?_)
                    generalize w32.drew = w33 at BK173 HB hHeld ⊢
                    refine pureA 0 29 HT_ ?_
                    refine pureA 3 32 HT_ ?_
                    refine pureA 4 33 HT_ ?_
                    refine pureA 5 34 HT_ ?_
                    refine pureA 6 35 HT_ ?_
                    refine pureA 7 36 HT_ ?_
                    refine take_ (i := 1) (N := some 30) (v := ?_) (a' := ?_) #[true, true, false, true, true, true, true, true, false, false, false, false, false] rfl rfl (take_ofW HT_.out HW_.out (by kernel_rfl)) (fun _ _ _ h => h) (Or.inl ⟨by rfl, ?_⟩) hHeld ?_ ?_
                    rotate_left
                    · intro w' _
                      go_simp
                      with_reducible rfl
                    rotate_left
                    · simp only [Act.put, List.setIfInBounds_toArray, List.set_cons_zero, List.set_cons_succ, i64_w, i32_w]
                      rfl
                    refine pureA 2 31 HT_ ?_
                    refine take_ (i := 8) (N := some 37) (v := ?_) (a' := ?_) #[true, true, true, true, true, true, true, true, true, false, false, false, false] rfl rfl (take_ofW HT_.out HW_.out (by kernel_rfl)) (fun _ _ _ h => h) (Or.inl ⟨by rfl, ?_⟩) hHeld ?_ ?_
                    rotate_left
                    · intro w' _
                      go_simp
                      with_reducible rfl
                    rotate_left
                    · simp only [Act.put, List.setIfInBounds_toArray, List.set_cons_zero, List.set_cons_succ, i64_w, i32_w]
                      rfl
                    refine pureA 9 38 HT_ ?_
                    refine pureA 10 39 HT_ ?_
                    refine one_ (i := 11) (N := some 8) #[true, true, true, true, true, true, true, true, true, true, true, true, false] rfl rfl (one_of HT_.out (by kernel_rfl)) (by decide) (fun K hK => ?_)
                    refine box_step ?hg (N := 8) ?hd (cs := #[.int .i64 0, .int .i64 0, .int .i64 0, .int .i64 0]) (t := 23) ?hr ?_; (case hd => rfl); (case hg => rfl); (case hr => first | (go_simp; done) | (go_simp; rfl))
                    intro gb178 hg w34 hbox hb
                    have BK178 := Aside0.mk (hbox)
                    have GW178 := Aside0.mk ((by rw [hg]; exact (below_size (bl HB)) : w.heap.size ≤ gb178))
                    have GE178 := Aside0.mk ((by rw [hg]; exact (below_size (bl HB)) : w.heap.size ≤ gb178))
                    have NB173_178 := nb BK173 hg
                    have NB178_173 := bn BK173 hg
                    replace BK173 := Aside0.mk (blk_below (bo BK173) hb)
                    replace HB := Aside0.mk (below_step (bl HB) hb)
                    clear hb hbox hg
                    refine hK.out _ _ trivial (fun hHeld => ?_)
                    clear hK K
                    refine norm_ (a' := ?_) ?_ ?_
                    rotate_left
                    · show Act.put _ (some 8) _ = _
                      simp only [Act.put, List.setIfInBounds_toArray, List.set_cons_zero, List.set_cons_succ, i64_w, i32_w]
                      rfl
                    refine one_ (i := 12) (N := none) #[true, true, true, true, true, true, true, true, true, true, true, true, true] rfl rfl (one_of HT_.out (by kernel_rfl)) (by decide) (fun K hK => ?_)
                    have hs35 : w34.cell? ⟨gb178, 0, none⟩ = some (.int .i64 0) := (blk_cell BK178.out 0).trans rfl
                    have hfs35 := blk_frozen BK178.out 0
                    have hns35_0 := NB173_178.out
                    have hms35_0 := NB178_173.out
                    have hs36 : w34.cell? ⟨gb178, 1, none⟩ = some (.int .i64 0) := (blk_cell BK178.out 1).trans rfl
                    have hfs36 := blk_frozen BK178.out 1
                    have hns36_0 := NB173_178.out
                    have hms36_0 := NB178_173.out
                    have hs37 : w34.cell? ⟨gb178, 2, none⟩ = some (.int .i64 0) := (blk_cell BK178.out 2).trans rfl
                    have hfs37 := blk_frozen BK178.out 2
                    have hns37_0 := NB173_178.out
                    have hms37_0 := NB178_173.out
                    have hs38 : w34.cell? ⟨gb178, 3, none⟩ = some (.int .i64 0) := (blk_cell BK178.out 3).trans rfl
                    have hfs38 := blk_frozen BK178.out 3
                    have hns38_0 := NB173_178.out
                    have hms38_0 := NB178_173.out
                    refine skip_ (w1 := ?_) (by rfl) rfl ?_ ?_
                    rotate_left
                    · go_simp
                      rfl
                    refine hK.out _ _ trivial (fun hHeld => ?_)
                    clear hK K
                    refine done_ (done_of HT_.out (by kernel_rfl)) ?_
                    have hnb39 := NB178_173.out
                    have hnc39 := NB173_178.out
                    obtain ⟨hcz40_0, hcz40_1, hcz40_2, hcz40_3⟩ := ce4 BK178
                    obtain ⟨hfz40_0, hfz40_1, hfz40_2, hfz40_3⟩ := fr4 BK178
                    try go_wp2_with (first | ((with_reducible refine gate_callee (f := 11) rfl ?_); refine goesL_ (some 41) rfl rfl Try.func11 (by kernel_rfl) rfl #[.agg #[.int .i64 (wrap64 (bt a0 0)), .int .i64 (wrap64 (t174)), .int .i64 (wrap64 (t176)), .int .i64 (wrap64 (bt a0 9))]] rfl (by (try simp only [List.map_toArray, List.map_cons, List.map_nil]); first | done | rfl | (simp only [List.length_drop, List.length_take]; rfl)) ?_; (with_reducible refine (sandglassref09_Check.calls k (wrap64 (bt a0 0)) (wrap64 (t174)) (wrap64 (t176)) (wrap64 (bt a0 9)) t179 _ A18.out).mono ?_); rintro e w41 ⟨rfl, hb⟩; refine ⟨_, rfl, ?_⟩; replace BK173 := Aside0.mk (blk_below (g := gb173) (o := .cells #[.int .i64 0, .int .i64 0, .int .i64 0, .int .i64 0] 23 (0, 0)) (by (with_reducible repeat (first | refine blk_drewN ?_ _ | refine blk_drew ?_ | refine blk_alloc ?_ _)); refine blk_far ?_ NB173_178.out _; (with_reducible repeat (first | refine blk_drewN ?_ _ | refine blk_drew ?_ | refine blk_alloc ?_ _)); refine blk_far ?_ NB173_178.out _; (with_reducible repeat (first | refine blk_drewN ?_ _ | refine blk_drew ?_ | refine blk_alloc ?_ _)); refine blk_far ?_ NB173_178.out _; (with_reducible repeat (first | refine blk_drewN ?_ _ | refine blk_drew ?_ | refine blk_alloc ?_ _)); refine blk_far ?_ NB173_178.out _; (with_reducible repeat (first | refine blk_drewN ?_ _ | refine blk_drew ?_ | refine blk_alloc ?_ _)); exact BK173.out) hb); replace BK178 := Aside0.mk (blk_below (g := gb178) (o := .cells #[.int .i64 (wrap64 (bt a0 0)), .int .i64 (wrap64 (t174)), .int .i64 (wrap64 (t176)), .int .i64 (wrap64 (bt a0 9))] 23 (0, 0)) (by (with_reducible repeat (first | refine blk_drewN ?_ _ | refine blk_drew ?_ | refine blk_alloc ?_ _)); refine blk_put (cs := #[.int .i64 (wrap64 (bt a0 0)), .int .i64 (wrap64 (t174)), .int .i64 (wrap64 (t176)), .int .i64 0]) ?_ 3 _ rfl; (with_reducible repeat (first | refine blk_drewN ?_ _ | refine blk_drew ?_ | refine blk_alloc ?_ _)); refine blk_put (cs := #[.int .i64 (wrap64 (bt a0 0)), .int .i64 (wrap64 (t174)), .int .i64 0, .int .i64 0]) ?_ 2 _ rfl; (with_reducible repeat (first | refine blk_drewN ?_ _ | refine blk_drew ?_ | refine blk_alloc ?_ _)); refine blk_put (cs := #[.int .i64 (wrap64 (bt a0 0)), .int .i64 0, .int .i64 0, .int .i64 0]) ?_ 1 _ rfl; (with_reducible repeat (first | refine blk_drewN ?_ _ | refine blk_drew ?_ | refine blk_alloc ?_ _)); refine blk_put (cs := #[.int .i64 0, .int .i64 0, .int .i64 0, .int .i64 0]) ?_ 0 _ rfl; (with_reducible repeat (first | refine blk_drewN ?_ _ | refine blk_drew ?_ | refine blk_alloc ?_ _)); exact BK178.out) hb); replace HB := Aside0.mk (below_step (bl HB) hb); (try clear hb); (try clear hb2); (try clear hk); (try clear hi); obtain ⟨hcz42_0, hcz42_1, hcz42_2, hcz42_3⟩ := ce4 BK173; obtain ⟨hfz42_0, hfz42_1, hfz42_2, hfz42_3⟩ := fr4 BK173))
                    refine bodyPost_ret (results_ct rfl _ _ gb173 23 #[.int .i64 0, .int .i64 0, .int .i64 0, .int .i64 0] (0, 0) _ rfl (by (with_reducible repeat (first | refine blk_drewN ?_ _ | refine blk_drew ?_ | refine blk_alloc ?_ _)); refine blk_put (cs := #[.int .i64 0, .int .i64 0, .int .i64 0, .int .i64 0]) ?_ 3 _ rfl; (with_reducible repeat (first | refine blk_drewN ?_ _ | refine blk_drew ?_ | refine blk_alloc ?_ _)); refine blk_put (cs := #[.int .i64 0, .int .i64 0, .int .i64 0, .int .i64 0]) ?_ 2 _ rfl; (with_reducible repeat (first | refine blk_drewN ?_ _ | refine blk_drew ?_ | refine blk_alloc ?_ _)); refine blk_put (cs := #[.int .i64 0, .int .i64 0, .int .i64 0, .int .i64 0]) ?_ 1 _ rfl; (with_reducible repeat (first | refine blk_drewN ?_ _ | refine blk_drew ?_ | refine blk_alloc ?_ _)); refine blk_put (cs := #[.int .i64 0, .int .i64 0, .int .i64 0, .int .i64 0]) ?_ 0 _ rfl; (with_reducible repeat (first | refine blk_drewN ?_ _ | refine blk_drew ?_ | refine blk_alloc ?_ _)); exact BK173.out) Try.underlying23 rfl (by kernel_rfl)) rfl ?_
                    exact ⟨by first | (with_reducible rfl) | rfl | (simp [errW_none, errW_some] <;> rfl) | (simp [*, errW_none, errW_some] <;> rfl), bl HB⟩
                · rw [if_neg c16] at H
                  exact absurd H (by simp)
              · rw [if_neg c14] at H
                exact absurd H (by simp)
            · rw [if_neg c12] at H
              exact absurd H (by simp)
          · rw [if_neg c11] at H
            exact absurd H (by simp)
        · rw [if_neg c9] at H
          exact absurd H (by simp)
      · rw [if_neg c8] at H
        exact absurd H (by simp)

end Go.Proofs.Ytjhipnhnbnnodaa.Q
