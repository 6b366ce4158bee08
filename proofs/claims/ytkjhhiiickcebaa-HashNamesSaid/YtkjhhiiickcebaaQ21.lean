-- Laid by wip/tools/hprint.py, a program of this repo, over the kit's print; not a text of print.sh.
import Derived.Test.YtkjhhiiickcebaaQ0
import Derived.Test.YtkjhhiiickcebaaQ4
import Derived.Test.YtkjhhiiickcebaaQ5
import Derived.Test.YtkjhhiiickcebaaQ7
import Derived.Test.YtkjhhiiickcebaaQ13
namespace Go.Proofs.Ytkjhhiiickcebaa.Q
open Go.RowKit Go.Proofs.Ytkjhhiiickcebaa.Zip Go.Proofs.YtkjhhiiickcebaaW.PrintWords Go.Proofs.YtkjhhiiickcebaaW.PrintLast Go.Proofs.YtkjhhiiickcebaaW.PrintMore
attribute [local go_sem] max2_int min2_int max_two min_two max_three min_three max_four min_four   -- for this text's walks alone
set_option linter.unusedVariables false
set_option linter.unusedSimpArgs false

/-! ### sandglasslaw03_HashNames: function 8 -/
def sandglasslaw03_HashNames.j0 : Nat → Int → Bool → Int → Int → ByteArray → ByteArray → Option (Bool)
  | 0, _, _, _, _, _, _ => none
  | k + 1, x0, x21, x168000, x168001, x169000, x169001 => if x21 = true then ((sandglasslaw03_live.f k).bind fun t169 => (some t169)) else ((hash_Mix.f (Go.bits .xor .u64 x0 (IntKind.u64.wrap (x168000)))).bind fun t170 => ((hash_Name.f x0 x168000 x169000).bind fun t171 => ((hash_Sum.f t170 x169000).bind fun t172 => (if t171 = t172 then (if (x169000.size : Int) = (x169001.size : Int) then ((hash_Sum.f x0 x169000).bind fun t174 => ((hash_Sum.f x0 x169001).bind fun t175 => (if x169000.size + 1 ≤ 9223372036854775807 then ((hash_Sum.f x0 (x169000 ++ (⟨#[120]⟩ : ByteArray))).bind fun t176 => (if x169001.size + 1 ≤ 9223372036854775807 then ((hash_Sum.f x0 (x169001 ++ (⟨#[120]⟩ : ByteArray))).bind fun t177 => (if ((t174 == t175) == (t176 == t177)) = true then ((sandglasslaw03_live.f k).bind fun t178 => (some t178)) else (none))) else (none))) else (none)))) else ((sandglasslaw03_live.f k).bind fun t173 => (some t173))) else (none)))))
def sandglasslaw03_HashNames.f (k : Nat) (a0 : Int) (a1_0 : Int) (a1_1 : Int) (a2_0 : ByteArray) (a2_1 : ByteArray) : Option (Bool) := if (a2_0.size : Int) > 100 then (sandglasslaw03_HashNames.j0 k a0 true a1_0 a1_1 a2_0 a2_1) else (sandglasslaw03_HashNames.j0 k a0 (decide ((a2_1.size : Int) > 100)) a1_0 a1_1 a2_0 a2_1)
theorem sandglasslaw03_HashNames.mono_l : ∀ k, (∀ y0 y1 y2 y3 y4 y5, LeO (sandglasslaw03_HashNames.j0 k y0 y1 y2 y3 y4 y5) (sandglasslaw03_HashNames.j0 (k + 1) y0 y1 y2 y3 y4 y5))
  | 0 => fun _ _ _ _ _ _ r h => by simp [sandglasslaw03_HashNames.j0] at h
  | k + 1 => by
    have ih0 := sandglasslaw03_HashNames.mono_l k
    · intro y0 y1 y2 y3 y4 y5
      unfold sandglasslaw03_HashNames.j0
      repeat' first
      | (with_reducible exact ih0 _ _ _ _ _ _)
      | (with_reducible exact sandglasslaw03_live.mono _)
      | (with_reducible exact LeO.refl _)
      | (with_reducible exact LeO.none _)
      | (with_reducible refine LeO.ite ?_ ?_)
      | (with_reducible refine LeO.bind ?_ (fun _ => ?_))
      | exact ih0 _ _ _ _ _ _
      | exact sandglasslaw03_live.mono _
      | exact LeO.none _
      | refine LeO.ite ?_ ?_
      | refine LeO.bind ?_ (fun _ => ?_)
theorem sandglasslaw03_HashNames.mono : ∀ a0 a1 a2 a3 a4 k, LeO (sandglasslaw03_HashNames.f k a0 a1 a2 a3 a4) (sandglasslaw03_HashNames.f (k + 1) a0 a1 a2 a3 a4) := by
  intro a0 a1 a2 a3 a4 k
  have ih0 := sandglasslaw03_HashNames.mono_l k
  unfold sandglasslaw03_HashNames.f
  repeat' first
      | (with_reducible exact ih0 _ _ _ _ _ _)
      | (with_reducible exact sandglasslaw03_live.mono _)
      | (with_reducible exact LeO.refl _)
      | (with_reducible exact LeO.none _)
      | (with_reducible refine LeO.ite ?_ ?_)
      | (with_reducible refine LeO.bind ?_ (fun _ => ?_))
      | exact ih0 _ _ _ _ _ _
      | exact sandglasslaw03_live.mono _
      | exact LeO.none _
      | refine LeO.ite ?_ ?_
      | refine LeO.bind ?_ (fun _ => ?_)
def sandglasslaw03_HashNames.T4 : Bool × List (List Nat × List Nat) := (true, [([], []), ([], []), ([1], [1]), ([], []), ([3], [3]), ([0, 2, 4], [0, 2, 4]), ([], []), ([], []), ([7], [7]), ([6, 8, 5], [6, 8]), ([5, 9], [5, 9])])
def sandglasslaw03_HashNames.B4 : List Nat := [0, 0, 2, 0, 8, 31, 0, 0, 128, 511, 1023]
theorem sandglasslaw03_HashNames.tab4 : rtab .any (opsOf Try.f8 4) = sandglasslaw03_HashNames.T4 := by kernel_rfl
theorem sandglasslaw03_HashNames.bits4 : waitsOk sandglasslaw03_HashNames.T4.2 sandglasslaw03_HashNames.B4 = true := by kernel_rfl
set_option maxHeartbeats 8000000 in
set_option maxRecDepth 100000 in
theorem sandglasslaw03_HashNames.calls (k : Nat) (a0 : Int) (a1_0 : Int) (a1_1 : Int) (a2_0 : ByteArray) (a2_1 : ByteArray) (r : Bool) (w : World) (h : sandglasslaw03_HashNames.f k a0 a1_0 a1_1 a2_0 a2_1 = some r) :
    Calls Try.prog 8 #[.int .u64 a0, .agg #[.int .i64 a1_0, .int .i64 a1_1], .agg #[.string a2_0, .string a2_1]] w fun e w' => e = .returned (.bool r) ∧ Below w.heap.size w w' := by
  have hu33 := Try.underlying33
  have hu38 := Try.underlying38
  have HB := Aside0.mk (Below.refl w.heap.size w)
  have H : (if (a2_0.size : Int) > 100 then (sandglasslaw03_HashNames.j0 k a0 true a1_0 a1_1 a2_0 a2_1) else (sandglasslaw03_HashNames.j0 k a0 (decide ((a2_1.size : Int) > 100)) a1_0 a1_1 a2_0 a2_1)) = some r := h
  clear h
  have HC4 := Aside0.mk H
  clear H
  go_enter Try.func8, Try.ntmps8
  go_upto_region 1 with (first | ((with_reducible refine gate_dst (N := 4) rfl ?_); (try (refine gate_guard (by rfl) ?_; dsimp only)); refine box_event ?hg (N := 4) ?hd (cs := #[.int .i64 a1_0, .int .i64 a1_1]) (t := 33) ?hr ?_; (case hd => rfl); (case hg => rfl); (case hr => first | (go_simp; done) | (go_simp; rfl)); intro gb167 hg w5 hbox hb; have BK167 := Aside0.mk (hbox); have GW167 := Aside0.mk ((by rw [hg]; exact (below_size (bl HB)) : w.heap.size ≤ gb167)); have GE167 := Aside0.mk ((by rw [hg]; exact (below_size (bl HB)) : w.heap.size ≤ gb167)); replace HB := Aside0.mk (below_step (bl HB) hb); clear hb hbox hg) | ((with_reducible refine gate_dst (N := 5) rfl ?_); (try (refine gate_guard (by rfl) ?_; dsimp only)); refine box_event ?hg (N := 5) ?hd (cs := #[.string a2_0, .string a2_1]) (t := 38) ?hr ?_; (case hd => rfl); (case hg => rfl); (case hr => first | (go_simp; done) | (go_simp; rfl)); intro gb168 hg w6 hbox hb; have BK168 := Aside0.mk (hbox); have GW168 := Aside0.mk ((by rw [hg]; exact (below_size (bl HB)) : w.heap.size ≤ gb168)); have GE168 := Aside0.mk ((by rw [hg]; exact (below_size (bl HB)) : w.heap.size ≤ gb168)); have NB167_168 := nb BK167 hg; have NB168_167 := bn BK167 hg; replace BK167 := Aside0.mk (blk_below (bo BK167) hb); replace HB := Aside0.mk (below_step (bl HB) hb); clear hb hbox hg))
  (try simp only [Act.put, List.setIfInBounds_toArray, List.set_cons_zero, List.set_cons_succ])
  go_cut [21] (fun v21 wc => ∃ (kq : Nat) (x21_3 : Bool), v21 = .bool x21_3 ∧ Aside0 (sandglasslaw03_HashNames.j0 kq a0 x21_3 a1_0 a1_1 a2_0 a2_1 = some r) ∧ Aside0 (kq ≤ k) ∧ Aside0 (wc.heap[gb167]? = some (.cells #[.int .i64 a1_0, .int .i64 a1_1] 33 (0, 0))) ∧ Aside0 (wc.heap[gb168]? = some (.cells #[.string a2_0, .string a2_1] 38 (0, 0))) ∧ Aside0 (Below w.heap.size w wc))
  case first =>
    have H := HC4.out
    clear HC4
    by_cases c7 : (a2_0.size : Int) > 100
    · rw [if_pos c7] at H
      have c7b0 : decide (100 < (a2_0.size : Int)) = true := decide_eq_true c7
      have c7b1 : decide (100 < a2_0.size) = true := decide_eq_true (by omega)
      clear c7
      (first | rw [c7b0] | (simp only [i64_w, i32_w]; rw [c7b0]) | skip)
      have H' := Aside0.mk H
      clear H
      have hnb8 := NB168_167.out
      have hnc8 := NB167_168.out
      obtain ⟨hcz9_0, hcz9_1⟩ := ce2 BK168
      obtain ⟨hfz9_0, hfz9_1⟩ := fr2 BK168
      go_wp2
      go_meet
      case rel => exact ⟨_, (true), (by first | (with_reducible rfl) | rfl | (simp; done) | (simp [*]; done)), H', ⟨by first | omega | exact Nat.le_refl _⟩, ⟨bo BK167⟩, ⟨bo BK168⟩, ⟨bl HB⟩⟩
    · rw [if_neg c7] at H
      have c7b0 : decide (100 < (a2_0.size : Int)) = false := decide_eq_false c7
      have c7b1 : decide (100 < a2_0.size) = false := decide_eq_false (by omega)
      clear c7
      (first | rw [c7b0] | (simp only [i64_w, i32_w]; rw [c7b0]) | skip)
      have H' := Aside0.mk H
      clear H
      have hnb10 := NB168_167.out
      have hnc10 := NB167_168.out
      obtain ⟨hcz11_0, hcz11_1⟩ := ce2 BK168
      obtain ⟨hfz11_0, hfz11_1⟩ := fr2 BK168
      go_wp2
      go_meet
      case rel => exact ⟨_, (decide ((a2_1.size : Int) > 100)), (by first | (with_reducible rfl) | rfl | (simp; done) | (simp [*]; done)), H', ⟨by first | omega | exact Nat.le_refl _⟩, ⟨bo BK167⟩, ⟨bo BK168⟩, ⟨bl HB⟩⟩
  case rest =>
    clear HC4
    try clear c1
    try clear p2
    try clear c7
    try clear c7b0
    try clear c7b1
    try clear c8
    try clear c10
    try clear hcz11_0
    try clear hcz11_1
    try clear hcz9_0
    try clear hcz9_1
    try clear hfz11_0
    try clear hfz11_1
    try clear hfz9_0
    try clear hfz9_1
    obtain ⟨kq, x21_3, rfl, HA, HJ3, BK167, BK168, HB⟩ := hcut
    cases kq with
    | zero => exact absurd HA.out (by simp [sandglasslaw03_HashNames.j0])
    | succ kj3 =>
      have H := HA.out
      clear HA
      simp only [sandglasslaw03_HashNames.j0] at H
      by_cases c12 : x21_3 = true
      · subst c12
        rw [if_pos rfl] at H
        replace H := Option.bind_eq_some_iff.mp H
        obtain ⟨t169, A130, H⟩ := H
        have A13 := Aside0.mk A130
        clear A130
        obtain rfl := Option.some.inj H
        go_wp2_with (first | ((with_reducible refine gate_callee (f := 11) rfl ?_); refine goesL_ (some 22) rfl rfl Try.func11 (by kernel_rfl) rfl #[] rfl (by (try simp only [List.map_toArray, List.map_cons, List.map_nil]); first | done | rfl | (simp only [List.length_drop, List.length_take]; rfl)) ?_; (with_reducible refine (sandglasslaw03_live.calls kj3  t169 _ A13.out).mono ?_); rintro e w14 ⟨rfl, hb⟩; refine ⟨_, rfl, ?_⟩; replace BK167 := Aside0.mk (blk_below (bo BK167) hb); replace BK168 := Aside0.mk (blk_below (bo BK168) hb); replace HB := Aside0.mk (below_step (bl HB) hb); (try clear hb); (try clear hb2); (try clear hk); (try clear hi)))
        go_ret
        exact ⟨by first | (with_reducible rfl) | rfl | (simp [errW_none, errW_some] <;> rfl) | (simp [*, errW_none, errW_some] <;> rfl), bl HB⟩
      · replace c12 := Bool.eq_false_iff.mpr c12
        subst c12
        rw [if_neg (show ¬ (false = true) by decide)] at H
        replace H := Option.bind_eq_some_iff.mp H
        obtain ⟨t170, A150, H⟩ := H
        have A15 := Aside0.mk A150
        clear A150
        replace H := Option.bind_eq_some_iff.mp H
        obtain ⟨t171, A160, H⟩ := H
        have A16 := Aside0.mk A160
        clear A160
        replace H := Option.bind_eq_some_iff.mp H
        obtain ⟨t172, A170, H⟩ := H
        have A17 := Aside0.mk A170
        clear A170
        by_cases c18 : t171 = t172
        · rw [if_pos c18] at H
          have c18b0 : (t171 == t172) = true := beq_iff_eq.mpr c18
          have c18b1 : (t171 != t172) = false := bne_eq_false_iff_eq.mpr c18
          clear c18
          by_cases c19 : (a2_0.size : Int) = (a2_1.size : Int)
          · rw [if_pos c19] at H
            have c19b0 : ((a2_0.size : Int) == (a2_1.size : Int)) = true := beq_iff_eq.mpr c19
            have c19b1 : ((a2_0.size : Int) != (a2_1.size : Int)) = false := bne_eq_false_iff_eq.mpr c19
            have c19b2 : (a2_0.size == a2_1.size) = true := by first | simpa using c19 | (simp at c19 ⊢; omega)
            clear c19
            replace H := Option.bind_eq_some_iff.mp H
            obtain ⟨t174, A200, H⟩ := H
            have A20 := Aside0.mk A200
            clear A200
            replace H := Option.bind_eq_some_iff.mp H
            obtain ⟨t175, A210, H⟩ := H
            have A21 := Aside0.mk A210
            clear A210
            by_cases c22 : a2_0.size + 1 ≤ 9223372036854775807
            · rw [if_pos c22] at H
              have c22b0 := eq_true c22
              have c22b1 : decide (a2_0.size + 1 ≤ 9223372036854775807) = true := decide_eq_true c22
              try have c22b2 : (9223372036854775807 < a2_0.size + 1) = False := eq_false (Nat.not_lt.2 c22)
              replace H := Option.bind_eq_some_iff.mp H
              obtain ⟨t176, A230, H⟩ := H
              have A23 := Aside0.mk A230
              clear A230
              by_cases c24 : a2_1.size + 1 ≤ 9223372036854775807
              · rw [if_pos c24] at H
                have c24b0 := eq_true c24
                have c24b1 : decide (a2_1.size + 1 ≤ 9223372036854775807) = true := decide_eq_true c24
                try have c24b2 : (9223372036854775807 < a2_1.size + 1) = False := eq_false (Nat.not_lt.2 c24)
                replace H := Option.bind_eq_some_iff.mp H
                obtain ⟨t177, A250, H⟩ := H
                have A25 := Aside0.mk A250
                clear A250
                by_cases c26 : ((t174 == t175) == (t176 == t177)) = true
                · rw [if_pos c26] at H
                  have c26b0 : ((t174 == t175) == (t176 == t177)) = true := c26
                  (try (have c26b1 : decide ((t174 == t175) = (t176 == t177)) = true := by simpa using c26))
                  (try (have c26b2 : ((t174 == t175) == (t176 == t177)) = true := by simpa using c26))
                  clear c26
                  replace H := Option.bind_eq_some_iff.mp H
                  obtain ⟨t178, A270, H⟩ := H
                  have A27 := Aside0.mk A270
                  clear A270
                  obtain rfl := Option.some.inj H
                  have hnb28 := NB167_168.out
                  have hnc28 := NB168_167.out
                  obtain ⟨hcz29_0, hcz29_1⟩ := ce2 BK167
                  obtain ⟨hfz29_0, hfz29_1⟩ := fr2 BK167
                  try go_wp2_with (first | ((with_reducible refine gate_callee (f := 10) rfl ?_); refine goesL_ (some 28) rfl rfl Try.func10 (by kernel_rfl) rfl #[.int .u64 (Go.bits .xor .u64 a0 (IntKind.u64.wrap (a1_0)))] rfl (by (try simp only [List.map_toArray, List.map_cons, List.map_nil]); first | done | rfl | (simp only [List.length_drop, List.length_take]; rfl)) ?_; (with_reducible refine (hash_Mix.calls (Go.bits .xor .u64 a0 (IntKind.u64.wrap (a1_0))) t170 _ A15.out).mono ?_); rintro e w30 ⟨rfl, hb⟩; refine ⟨_, rfl, ?_⟩; replace BK167 := Aside0.mk (blk_below (bo BK167) hb); replace BK168 := Aside0.mk (blk_below (bo BK168) hb); replace HB := Aside0.mk (below_step (bl HB) hb); (try clear hb); (try clear hb2); (try clear hk); (try clear hi)))
                  replace BK167 := Aside0.mk (blk_drew BK167.out)
                  replace BK168 := Aside0.mk (blk_drew BK168.out)
                  replace HB := Aside0.mk (below_drew1 HB.out)
                  refine start_ (n := 11) (S := fun w' => w'.cell? ⟨gb167, 0, none⟩ = some (.int .i64 a1_0) ∧ w'.cell? ⟨gb167, 1, none⟩ = some (.int .i64 a1_1) ∧ w'.cell? ⟨gb168, 0, none⟩ = some (.string a2_0) ∧ w'.cell? ⟨gb168, 1, none⟩ = some (.string a2_1)) (ds := []) #[false, false, false, false, false, false, false, false, false, false, false] (by kernel_rfl) rfl rfl ⟨(blk_cell BK167.out 0).trans rfl, (blk_cell BK167.out 1).trans rfl, (blk_cell BK168.out 0).trans rfl, (blk_cell BK168.out 1).trans rfl⟩ (fun hHeld => ?_); refine with_tabW sandglasslaw03_HashNames.tab4 sandglasslaw03_HashNames.bits4 (fun HT_ HW_ => ?_)
                  generalize w30.drew = w31 at BK167 BK168 HB hHeld ⊢
                  refine pureA 0 29 HT_ ?_
                  refine pureA 1 30 HT_ ?_
                  refine pureA 3 32 HT_ ?_
                  refine pureA 6 35 HT_ ?_
                  refine pureA 7 36 HT_ ?_
                  refine takeA 2 31 HT_ HW_ hHeld ?_
                  refine takeA 4 33 HT_ HW_ hHeld ?_
                  refine takeA 8 37 HT_ HW_ hHeld ?_
                  refine one_ (i := 5) (N := some 34) #[true, true, true, true, true, true, true, true, true, false, false] rfl rfl (one_of HT_.out (by kernel_rfl)) (by decide) (fun K hK => ?_)
                  refine goes_ Try.func15 (by kernel_rfl) rfl #[.int .u64 a0, .int .i64 a1_0, .string a2_0] (by rfl) rfl rfl (by (try simp only [List.map_toArray, List.map_cons, List.map_nil]); first | done | rfl | (simp only [List.length_drop, List.length_take]; rfl)) ?_
                  with_reducible refine (hash_Name.calls a0 a1_0 a2_0 t171 _ A16.out).mono ?_
                  rintro e w32 ⟨rfl, hb⟩
                  refine ⟨_, rfl, ?_⟩
                  replace BK167 := Aside0.mk (blk_below (bo BK167) hb)
                  replace BK168 := Aside0.mk (blk_below (bo BK168) hb)
                  replace HB := Aside0.mk (below_step (bl HB) hb)
                  (try clear hb)
                  (try clear hb2)
                  (try clear hk)
                  (try clear hi)
                  refine hK.out _ _ ⟨(blk_cell BK167.out 0).trans rfl, (blk_cell BK167.out 1).trans rfl, (blk_cell BK168.out 0).trans rfl, (blk_cell BK168.out 1).trans rfl⟩ (fun hHeld => ?_)
                  clear hK K
                  refine norm_ (a' := ?_) ?_ ?_
                  rotate_left
                  · show Act.put _ (some 34) _ = _
                    simp only [Act.put, List.setIfInBounds_toArray, List.set_cons_zero, List.set_cons_succ, i64_w, i32_w]
                    rfl
                  refine one_ (i := 9) (N := some 38) #[true, true, true, true, true, true, true, true, true, true, false] rfl rfl (one_of HT_.out (by kernel_rfl)) (by decide) (fun K hK => ?_)
                  refine goes_ Try.func12 (by kernel_rfl) rfl #[.int .u64 t170, .string a2_0] (by rfl) rfl rfl (by (try simp only [List.map_toArray, List.map_cons, List.map_nil]); first | done | rfl | (simp only [List.length_drop, List.length_take]; rfl)) ?_
                  with_reducible refine (hash_Sum.calls t170 a2_0 t172 _ A17.out).mono ?_
                  rintro e w33 ⟨rfl, hb⟩
                  refine ⟨_, rfl, ?_⟩
                  replace BK167 := Aside0.mk (blk_below (bo BK167) hb)
                  replace BK168 := Aside0.mk (blk_below (bo BK168) hb)
                  replace HB := Aside0.mk (below_step (bl HB) hb)
                  (try clear hb)
                  (try clear hb2)
                  (try clear hk)
                  (try clear hi)
                  refine hK.out _ _ ⟨(blk_cell BK167.out 0).trans rfl, (blk_cell BK167.out 1).trans rfl, (blk_cell BK168.out 0).trans rfl, (blk_cell BK168.out 1).trans rfl⟩ (fun hHeld => ?_)
                  clear hK K
                  refine norm_ (a' := ?_) ?_ ?_
                  rotate_left
                  · show Act.put _ (some 38) _ = _
                    simp only [Act.put, List.setIfInBounds_toArray, List.set_cons_zero, List.set_cons_succ, i64_w, i32_w]
                    rfl
                  refine pureA 10 39 HT_ ?_
                  refine done_ (done_of HT_.out (by kernel_rfl)) ?_
                  obtain ⟨hcz34_0, hcz34_1⟩ := ce2 BK168
                  obtain ⟨hfz34_0, hfz34_1⟩ := fr2 BK168
                  try go_wp2_with (first | ((with_reducible refine gate_callee (f := 12) rfl ?_); refine goesL_ (some 51) rfl rfl Try.func12 (by kernel_rfl) rfl #[.int .u64 a0, .string a2_0] rfl (by (try simp only [List.map_toArray, List.map_cons, List.map_nil]); first | done | rfl | (simp only [List.length_drop, List.length_take]; rfl)) ?_; (with_reducible refine (hash_Sum.calls a0 a2_0 t174 _ A20.out).mono ?_); rintro e w35 ⟨rfl, hb⟩; refine ⟨_, rfl, ?_⟩; replace BK167 := Aside0.mk (blk_below (bo BK167) hb); replace BK168 := Aside0.mk (blk_below (bo BK168) hb); replace HB := Aside0.mk (below_step (bl HB) hb); (try clear hb); (try clear hb2); (try clear hk); (try clear hi); obtain ⟨hcz36_0, hcz36_1⟩ := ce2 BK168; obtain ⟨hfz36_0, hfz36_1⟩ := fr2 BK168) | ((with_reducible refine gate_callee (f := 12) rfl ?_); refine goesL_ (some 55) rfl rfl Try.func12 (by kernel_rfl) rfl #[.int .u64 a0, .string a2_1] rfl (by (try simp only [List.map_toArray, List.map_cons, List.map_nil]); first | done | rfl | (simp only [List.length_drop, List.length_take]; rfl)) ?_; (with_reducible refine (hash_Sum.calls a0 a2_1 t175 _ A21.out).mono ?_); rintro e w37 ⟨rfl, hb⟩; refine ⟨_, rfl, ?_⟩; replace BK167 := Aside0.mk (blk_below (bo BK167) hb); replace BK168 := Aside0.mk (blk_below (bo BK168) hb); replace HB := Aside0.mk (below_step (bl HB) hb); (try clear hb); (try clear hb2); (try clear hk); (try clear hi); obtain ⟨hcz38_0, hcz38_1⟩ := ce2 BK168; obtain ⟨hfz38_0, hfz38_1⟩ := fr2 BK168) | ((with_reducible refine gate_callee (f := 12) rfl ?_); refine goesL_ (some 60) rfl rfl Try.func12 (by kernel_rfl) rfl #[.int .u64 a0, .string (a2_0 ++ (⟨#[120]⟩ : ByteArray))] rfl (by (try simp only [List.map_toArray, List.map_cons, List.map_nil]); first | done | rfl | (simp only [List.length_drop, List.length_take]; rfl)) ?_; (with_reducible refine (hash_Sum.calls a0 (a2_0 ++ (⟨#[120]⟩ : ByteArray)) t176 _ A23.out).mono ?_); rintro e w39 ⟨rfl, hb⟩; refine ⟨_, rfl, ?_⟩; replace BK167 := Aside0.mk (blk_below (bo BK167) hb); replace BK168 := Aside0.mk (blk_below (bo BK168) hb); replace HB := Aside0.mk (below_step (bl HB) hb); (try clear hb); (try clear hb2); (try clear hk); (try clear hi); obtain ⟨hcz40_0, hcz40_1⟩ := ce2 BK168; obtain ⟨hfz40_0, hfz40_1⟩ := fr2 BK168) | ((with_reducible refine gate_callee (f := 12) rfl ?_); refine goesL_ (some 65) rfl rfl Try.func12 (by kernel_rfl) rfl #[.int .u64 a0, .string (a2_1 ++ (⟨#[120]⟩ : ByteArray))] rfl (by (try simp only [List.map_toArray, List.map_cons, List.map_nil]); first | done | rfl | (simp only [List.length_drop, List.length_take]; rfl)) ?_; (with_reducible refine (hash_Sum.calls a0 (a2_1 ++ (⟨#[120]⟩ : ByteArray)) t177 _ A25.out).mono ?_); rintro e w41 ⟨rfl, hb⟩; refine ⟨_, rfl, ?_⟩; replace BK167 := Aside0.mk (blk_below (bo BK167) hb); replace BK168 := Aside0.mk (blk_below (bo BK168) hb); replace HB := Aside0.mk (below_step (bl HB) hb); (try clear hb); (try clear hb2); (try clear hk); (try clear hi)) | (go_at_call 11; (with_reducible refine (sandglasslaw03_live.calls kj3  t178 _ A27.out).mono ?_); rintro e w42 ⟨rfl, hb⟩; replace BK167 := Aside0.mk (blk_below (bo BK167) hb); replace BK168 := Aside0.mk (blk_below (bo BK168) hb); replace HB := Aside0.mk (below_step (bl HB) hb); (try clear hb); (try clear hb2); (try clear hk); (try clear hi)))
                  go_ret
                  exact ⟨by first | (with_reducible rfl) | rfl | (simp [errW_none, errW_some] <;> rfl) | (simp [*, errW_none, errW_some] <;> rfl), bl HB⟩
                · rw [if_neg c26] at H
                  exact absurd H (by simp)
              · rw [if_neg c24] at H
                exact absurd H (by simp)
            · rw [if_neg c22] at H
              exact absurd H (by simp)
          · rw [if_neg c19] at H
            have c19b0 : ((a2_0.size : Int) == (a2_1.size : Int)) = false := beq_eq_false_iff_ne.mpr c19
            have c19b1 : ((a2_0.size : Int) != (a2_1.size : Int)) = true := bne_iff_ne.mpr c19
            have c19b2 : (a2_0.size == a2_1.size) = false := by first | simpa using c19 | (simp at c19 ⊢; omega)
            replace H := Option.bind_eq_some_iff.mp H
            obtain ⟨t173, A430, H⟩ := H
            have A43 := Aside0.mk A430
            clear A430
            obtain rfl := Option.some.inj H
            have hnb44 := NB167_168.out
            have hnc44 := NB168_167.out
            obtain ⟨hcz45_0, hcz45_1⟩ := ce2 BK167
            obtain ⟨hfz45_0, hfz45_1⟩ := fr2 BK167
            try go_wp2_with (first | ((with_reducible refine gate_callee (f := 10) rfl ?_); refine goesL_ (some 28) rfl rfl Try.func10 (by kernel_rfl) rfl #[.int .u64 (Go.bits .xor .u64 a0 (IntKind.u64.wrap (a1_0)))] rfl (by (try simp only [List.map_toArray, List.map_cons, List.map_nil]); first | done | rfl | (simp only [List.length_drop, List.length_take]; rfl)) ?_; (with_reducible refine (hash_Mix.calls (Go.bits .xor .u64 a0 (IntKind.u64.wrap (a1_0))) t170 _ A15.out).mono ?_); rintro e w46 ⟨rfl, hb⟩; refine ⟨_, rfl, ?_⟩; replace BK167 := Aside0.mk (blk_below (bo BK167) hb); replace BK168 := Aside0.mk (blk_below (bo BK168) hb); replace HB := Aside0.mk (below_step (bl HB) hb); (try clear hb); (try clear hb2); (try clear hk); (try clear hi)))
            replace BK167 := Aside0.mk (blk_drew BK167.out)
            replace BK168 := Aside0.mk (blk_drew BK168.out)
            replace HB := Aside0.mk (below_drew1 HB.out)
            refine start_ (n := 11) (S := fun w' => w'.cell? ⟨gb167, 0, none⟩ = some (.int .i64 a1_0) ∧ w'.cell? ⟨gb167, 1, none⟩ = some (.int .i64 a1_1) ∧ w'.cell? ⟨gb168, 0, none⟩ = some (.string a2_0) ∧ w'.cell? ⟨gb168, 1, none⟩ = some (.string a2_1)) (ds := []) #[false, false, false, false, false, false, false, false, false, false, false] (by kernel_rfl) rfl rfl ⟨(blk_cell BK167.out 0).trans rfl, (blk_cell BK167.out 1).trans rfl, (blk_cell BK168.out 0).trans rfl, (blk_cell BK168.out 1).trans rfl⟩ (fun hHeld => ?_); refine with_tabW sandglasslaw03_HashNames.tab4 sandglasslaw03_HashNames.bits4 (fun HT_ HW_ => ?_)
            generalize w46.drew = w47 at BK167 BK168 HB hHeld ⊢
            refine pureA 0 29 HT_ ?_
            refine pureA 1 30 HT_ ?_
            refine pureA 3 32 HT_ ?_
            refine pureA 6 35 HT_ ?_
            refine pureA 7 36 HT_ ?_
            refine takeA 2 31 HT_ HW_ hHeld ?_
            refine takeA 4 33 HT_ HW_ hHeld ?_
            refine takeA 8 37 HT_ HW_ hHeld ?_
            refine one_ (i := 5) (N := some 34) #[true, true, true, true, true, true, true, true, true, false, false] rfl rfl (one_of HT_.out (by kernel_rfl)) (by decide) (fun K hK => ?_)
            refine goes_ Try.func15 (by kernel_rfl) rfl #[.int .u64 a0, .int .i64 a1_0, .string a2_0] (by rfl) rfl rfl (by (try simp only [List.map_toArray, List.map_cons, List.map_nil]); first | done | rfl | (simp only [List.length_drop, List.length_take]; rfl)) ?_
            with_reducible refine (hash_Name.calls a0 a1_0 a2_0 t171 _ A16.out).mono ?_
            rintro e w48 ⟨rfl, hb⟩
            refine ⟨_, rfl, ?_⟩
            replace BK167 := Aside0.mk (blk_below (bo BK167) hb)
            replace BK168 := Aside0.mk (blk_below (bo BK168) hb)
            replace HB := Aside0.mk (below_step (bl HB) hb)
            (try clear hb)
            (try clear hb2)
            (try clear hk)
            (try clear hi)
            refine hK.out _ _ ⟨(blk_cell BK167.out 0).trans rfl, (blk_cell BK167.out 1).trans rfl, (blk_cell BK168.out 0).trans rfl, (blk_cell BK168.out 1).trans rfl⟩ (fun hHeld => ?_)
            clear hK K
            refine norm_ (a' := ?_) ?_ ?_
            rotate_left
            · show Act.put _ (some 34) _ = _
              simp only [Act.put, List.setIfInBounds_toArray, List.set_cons_zero, List.set_cons_succ, i64_w, i32_w]
              rfl
            refine one_ (i := 9) (N := some 38) #[true, true, true, true, true, true, true, true, true, true, false] rfl rfl (one_of HT_.out (by kernel_rfl)) (by decide) (fun K hK => ?_)
            refine goes_ Try.func12 (by kernel_rfl) rfl #[.int .u64 t170, .string a2_0] (by rfl) rfl rfl (by (try simp only [List.map_toArray, List.map_cons, List.map_nil]); first | done | rfl | (simp only [List.length_drop, List.length_take]; rfl)) ?_
            with_reducible refine (hash_Sum.calls t170 a2_0 t172 _ A17.out).mono ?_
            rintro e w49 ⟨rfl, hb⟩
            refine ⟨_, rfl, ?_⟩
            replace BK167 := Aside0.mk (blk_below (bo BK167) hb)
            replace BK168 := Aside0.mk (blk_below (bo BK168) hb)
            replace HB := Aside0.mk (below_step (bl HB) hb)
            (try clear hb)
            (try clear hb2)
            (try clear hk)
            (try clear hi)
            refine hK.out _ _ ⟨(blk_cell BK167.out 0).trans rfl, (blk_cell BK167.out 1).trans rfl, (blk_cell BK168.out 0).trans rfl, (blk_cell BK168.out 1).trans rfl⟩ (fun hHeld => ?_)
            clear hK K
            refine norm_ (a' := ?_) ?_ ?_
            rotate_left
            · show Act.put _ (some 38) _ = _
              simp only [Act.put, List.setIfInBounds_toArray, List.set_cons_zero, List.set_cons_succ, i64_w, i32_w]
              rfl
            refine pureA 10 39 HT_ ?_
            refine done_ (done_of HT_.out (by kernel_rfl)) ?_
            obtain ⟨hcz50_0, hcz50_1⟩ := ce2 BK168
            obtain ⟨hfz50_0, hfz50_1⟩ := fr2 BK168
            try go_wp2_with (first | ((with_reducible refine gate_callee (f := 11) rfl ?_); refine goesL_ (some 47) rfl rfl Try.func11 (by kernel_rfl) rfl #[] rfl (by (try simp only [List.map_toArray, List.map_cons, List.map_nil]); first | done | rfl | (simp only [List.length_drop, List.length_take]; rfl)) ?_; (with_reducible refine (sandglasslaw03_live.calls kj3  t173 _ A43.out).mono ?_); rintro e w51 ⟨rfl, hb⟩; refine ⟨_, rfl, ?_⟩; replace BK167 := Aside0.mk (blk_below (bo BK167) hb); replace BK168 := Aside0.mk (blk_below (bo BK168) hb); replace HB := Aside0.mk (below_step (bl HB) hb); (try clear hb); (try clear hb2); (try clear hk); (try clear hi)))
            go_ret
            exact ⟨by first | (with_reducible rfl) | rfl | (simp [errW_none, errW_some] <;> rfl) | (simp [*, errW_none, errW_some] <;> rfl), bl HB⟩
        · rw [if_neg c18] at H
          exact absurd H (by simp)

end Go.Proofs.Ytkjhhiiickcebaa.Q
