-- Laid by wip/tools/hprint.py, a program of this repo, over the kit's print; not a text of print.sh.
import Derived.Test.YtjhipnhnbnnodaaQ0
import Derived.Test.YtjhipnhnbnnodaaQ1
import Derived.Test.YtjhipnhnbnnodaaQ17
import Derived.Test.YtjhipnhnbnnodaaQ18
import Derived.Test.YtjhipnhnbnnodaaQ21
namespace Go.Proofs.Ytjhipnhnbnnodaa.Q
open Go.RowKit Go.Proofs.Ytjhipnhnbnnodaa.Zip Go.Proofs.YtjhipnhnbnnodaaW.PrintWords Go.Proofs.YtjhipnhnbnnodaaW.PrintLast Go.Proofs.YtjhipnhnbnnodaaW.PrintMore
attribute [local go_sem] max2_int min2_int max_two min_two max_three min_three max_four min_four   -- for this text's walks alone
set_option linter.unusedVariables false
set_option linter.unusedSimpArgs false

attribute [local go_sem high] eqA23
/-! ### sandglasslaw09_PolicyReads: function 4 -/
def sandglasslaw09_PolicyReads.f (k : Nat) (a0 : ByteArray) : Option (Bool) := if (a0.size : Int) > 100 then ((sandglasslaw09_live.f k).bind fun t180 => (some t180)) else ((policy_Decode.f a0).bind fun bt181 => ((sandglassref09_Decode.f k a0).bind fun bt187 => (if (bt181.1 == bt187.1 && (bt181.2.1 == bt187.2.1 && (bt181.2.2.1 == bt187.2.2.1 && (bt181.2.2.2.1 == bt187.2.2.2.1)))) = true then (if bt181.2.2.2.2 = bt187.2.2.2.2 then ((sandglasslaw09_live.f k).bind fun t193 => (some t193)) else (none)) else (none))))
theorem sandglasslaw09_PolicyReads.mono : ∀ a0 k, LeO (sandglasslaw09_PolicyReads.f k a0) (sandglasslaw09_PolicyReads.f (k + 1) a0) := by
  intro a0 k
  unfold sandglasslaw09_PolicyReads.f
  repeat' first
      | (with_reducible exact sandglasslaw09_live.mono _)
      | (with_reducible exact sandglassref09_Decode.mono _ _)
      | (with_reducible exact LeO.refl _)
      | (with_reducible exact LeO.none _)
      | (with_reducible refine LeO.ite ?_ ?_)
      | (with_reducible refine LeO.bind ?_ (fun _ => ?_))
      | exact sandglasslaw09_live.mono _
      | exact sandglassref09_Decode.mono _ _
      | exact LeO.none _
      | refine LeO.ite ?_ ?_
      | refine LeO.bind ?_ (fun _ => ?_)
set_option maxHeartbeats 8000000 in
set_option maxRecDepth 100000 in
theorem sandglasslaw09_PolicyReads.calls (k : Nat) (a0 : ByteArray) (r : Bool) (w : World) (h : sandglasslaw09_PolicyReads.f k a0 = some r) :
    Calls Try.prog 4 #[.string a0] w fun e w' => e = .returned (.bool r) ∧ Below w.heap.size w w' := by
  have hu23 := Try.underlying23
  have HB := Aside0.mk (Below.refl w.heap.size w)
  have H : (if (a0.size : Int) > 100 then ((sandglasslaw09_live.f k).bind fun t180 => (some t180)) else ((policy_Decode.f a0).bind fun bt181 => ((sandglassref09_Decode.f k a0).bind fun bt187 => (if (bt181.1 == bt187.1 && (bt181.2.1 == bt187.2.1 && (bt181.2.2.1 == bt187.2.2.1 && (bt181.2.2.2.1 == bt187.2.2.2.1)))) = true then (if bt181.2.2.2.2 = bt187.2.2.2.2 then ((sandglasslaw09_live.f k).bind fun t193 => (some t193)) else (none)) else (none))))) = some r := h
  clear h
  by_cases c2 : (a0.size : Int) > 100
  · rw [if_pos c2] at H
    have c2b0 : decide (100 < (a0.size : Int)) = true := decide_eq_true c2
    have c2b1 : decide (100 < a0.size) = true := decide_eq_true (by omega)
    clear c2
    replace H := Option.bind_eq_some_iff.mp H
    obtain ⟨t180, A30, H⟩ := H
    have A3 := Aside0.mk A30
    clear A30
    obtain rfl := Option.some.inj H
    go_enter Try.func4, Try.ntmps4
    go_wp2_with (first | ((with_reducible refine gate_callee (f := 18) rfl ?_); refine goesL_ (some 10) rfl rfl Try.func18 (by kernel_rfl) rfl #[] rfl (by (try simp only [List.map_toArray, List.map_cons, List.map_nil]); first | done | rfl | (simp only [List.length_drop, List.length_take]; rfl)) ?_; (with_reducible refine (sandglasslaw09_live.calls k  t180 _ A3.out).mono ?_); rintro e w4 ⟨rfl, hb⟩; refine ⟨_, rfl, ?_⟩; replace HB := Aside0.mk (below_step (bl HB) hb); (try clear hb); (try clear hb2); (try clear hk); (try clear hi)))
    go_ret
    exact ⟨by first | (with_reducible rfl) | rfl | (simp [errW_none, errW_some] <;> rfl) | (simp [*, errW_none, errW_some] <;> rfl), bl HB⟩
  · rw [if_neg c2] at H
    have c2b0 : decide (100 < (a0.size : Int)) = false := decide_eq_false c2
    have c2b1 : decide (100 < a0.size) = false := decide_eq_false (by omega)
    clear c2
    replace H := Option.bind_eq_some_iff.mp H
    obtain ⟨⟨t181, t182, t183, t184, t185⟩, A50, H⟩ := H
    have A5 := Aside0.mk A50
    clear A50
    replace H := Option.bind_eq_some_iff.mp H
    obtain ⟨⟨t187, t188, t189, t190, t191⟩, A60, H⟩ := H
    have A6 := Aside0.mk A60
    clear A60
    by_cases c7 : (t181 == t187 && (t182 == t188 && (t183 == t189 && (t184 == t190)))) = true
    · rw [if_pos c7] at H
      have c7b0 : (t181 == t187 && (t182 == t188 && (t183 == t189 && (t184 == t190)))) = true := c7
      (try (have c7b1 : decide (t181 = t187 && (t182 == t188 && (t183 == t189 && (t184 == t190)))) = true := by simpa using c7))
      (try (have c7b2 : (t181 == t187 && (t182 == t188 && (t183 == t189 && (t184 == t190)))) = true := by simpa using c7))
      clear c7
      by_cases c8 : t185 = t191
      · rw [if_pos c8] at H
        have c8b0 : (t185 == t191) = true := beq_iff_eq.mpr c8
        have c8b1 : (t185 != t191) = false := bne_eq_false_iff_eq.mpr c8
        clear c8
        replace H := Option.bind_eq_some_iff.mp H
        obtain ⟨t193, A90, H⟩ := H
        have A9 := Aside0.mk A90
        clear A90
        obtain rfl := Option.some.inj H
        go_enter Try.func4, Try.ntmps4
        go_wp2_with (first | ((with_reducible refine gate_callee (f := 19) rfl ?_); refine goesL_ (some 13) rfl rfl Try.func19 (by kernel_rfl) rfl #[.string a0] rfl (by (try simp only [List.map_toArray, List.map_cons, List.map_nil]); first | done | rfl | (simp only [List.length_drop, List.length_take]; rfl)) ?_; (with_reducible refine (policy_Decode.calls a0 t181 t182 t183 t184 t185 _ A5.out).mono ?_); rintro e w10 ⟨rfl, hb⟩; refine ⟨_, rfl, ?_⟩; replace HB := Aside0.mk (below_step (bl HB) hb); (try clear hb); (try clear hb2); (try clear hk); (try clear hi)) | ((with_reducible refine gate_dst (N := 3) rfl ?_); refine box_event ?hg (N := 3) ?hd (cs := #[.int .i64 0, .int .i64 0, .int .i64 0, .int .i64 0]) (t := 23) ?hr ?_; (case hd => rfl); (case hg => rfl); (case hr => first | (go_simp; done) | (go_simp; rfl)); intro gb186 hg w11 hbox hb; have BK186 := Aside0.mk (hbox); have GW186 := Aside0.mk ((by rw [hg]; exact (below_size (bl HB)) : w.heap.size ≤ gb186)); have GE186 := Aside0.mk ((by rw [hg]; exact (below_size (bl HB)) : w.heap.size ≤ gb186)); replace HB := Aside0.mk (below_step (bl HB) hb); clear hb hbox hg; obtain ⟨hcz12_0, hcz12_1, hcz12_2, hcz12_3⟩ := ce4 BK186; obtain ⟨hfz12_0, hfz12_1, hfz12_2, hfz12_3⟩ := fr4 BK186) | ((with_reducible refine gate_store (t := 23) (p := 3) rfl ?_); refine store_event (t := 23) (p := 3) (v := ?vo_w13) (w1 := ((((w11.setCell ⟨gb186, 0, none⟩ (.int .i64 t181)).setCell ⟨gb186, 1, none⟩ (.int .i64 t182)).setCell ⟨gb186, 2, none⟩ (.int .i64 t183)).setCell ⟨gb186, 3, none⟩ (.int .i64 t184))) ?hg ?ho ?hn ?hr ?_; (case ho => rfl); (case hg => rfl); (case hn => rfl); (case hr => first | (go_simp; done) | (go_simp; rfl)); intro w13 hw; replace BK186 : Aside0 (w13.heap[gb186]? = some (.cells #[.int .i64 t181, .int .i64 t182, .int .i64 t183, .int .i64 t184] 23 (0, 0))) := ⟨(by rw [hw]; exact (by (with_reducible repeat (first | refine blk_drewN ?_ _ | refine blk_drew ?_ | refine blk_alloc ?_ _)); refine blk_put (cs := #[.int .i64 t181, .int .i64 t182, .int .i64 t183, .int .i64 0]) ?_ 3 _ rfl; (with_reducible repeat (first | refine blk_drewN ?_ _ | refine blk_drew ?_ | refine blk_alloc ?_ _)); refine blk_put (cs := #[.int .i64 t181, .int .i64 t182, .int .i64 0, .int .i64 0]) ?_ 2 _ rfl; (with_reducible repeat (first | refine blk_drewN ?_ _ | refine blk_drew ?_ | refine blk_alloc ?_ _)); refine blk_put (cs := #[.int .i64 t181, .int .i64 0, .int .i64 0, .int .i64 0]) ?_ 1 _ rfl; (with_reducible repeat (first | refine blk_drewN ?_ _ | refine blk_drew ?_ | refine blk_alloc ?_ _)); refine blk_put (cs := #[.int .i64 0, .int .i64 0, .int .i64 0, .int .i64 0]) ?_ 0 _ rfl; (with_reducible repeat (first | refine blk_drewN ?_ _ | refine blk_drew ?_ | refine blk_alloc ?_ _)); exact BK186.out))⟩; replace HB : Aside0 (Below w.heap.size w w13) := ⟨(by rw [hw]; exact (bl HB))⟩; clear hw) | ((with_reducible refine gate_callee (f := 20) rfl ?_); refine goesL_ (some 18) rfl rfl Try.func20 (by kernel_rfl) rfl #[.string a0] rfl (by (try simp only [List.map_toArray, List.map_cons, List.map_nil]); first | done | rfl | (simp only [List.length_drop, List.length_take]; rfl)) ?_; (with_reducible refine (sandglassref09_Decode.calls k a0 t187 t188 t189 t190 t191 _ A6.out).mono ?_); rintro e w14 ⟨rfl, hb⟩; refine ⟨_, rfl, ?_⟩; replace BK186 := Aside0.mk (blk_below (bo BK186) hb); replace HB := Aside0.mk (below_step (bl HB) hb); (try clear hb); (try clear hb2); (try clear hk); (try clear hi)) | ((with_reducible refine gate_dst (N := 5) rfl ?_); refine box_event ?hg (N := 5) ?hd (cs := #[.int .i64 0, .int .i64 0, .int .i64 0, .int .i64 0]) (t := 23) ?hr ?_; (case hd => rfl); (case hg => rfl); (case hr => first | (go_simp; done) | (go_simp; rfl)); intro gb192 hg w15 hbox hb; have BK192 := Aside0.mk (hbox); have GW192 := Aside0.mk ((by rw [hg]; exact (below_size (bl HB)) : w.heap.size ≤ gb192)); have GE192 := Aside0.mk ((by rw [hg]; exact (below_size (bl HB)) : w.heap.size ≤ gb192)); have NB186_192 := nb BK186 hg; have NB192_186 := bn BK186 hg; replace BK186 := Aside0.mk (blk_below (bo BK186) hb); replace HB := Aside0.mk (below_step (bl HB) hb); clear hb hbox hg; have hnb16 := NB192_186.out; have hnc16 := NB186_192.out; obtain ⟨hcz17_0, hcz17_1, hcz17_2, hcz17_3⟩ := ce4 BK192; obtain ⟨hfz17_0, hfz17_1, hfz17_2, hfz17_3⟩ := fr4 BK192) | ((with_reducible refine gate_store (t := 23) (p := 5) rfl ?_); refine store_event (t := 23) (p := 5) (v := ?vo_w18) (w1 := ((((w15.setCell ⟨gb192, 0, none⟩ (.int .i64 t187)).setCell ⟨gb192, 1, none⟩ (.int .i64 t188)).setCell ⟨gb192, 2, none⟩ (.int .i64 t189)).setCell ⟨gb192, 3, none⟩ (.int .i64 t190))) ?hg ?ho ?hn ?hr ?_; (case ho => rfl); (case hg => rfl); (case hn => rfl); (case hr => first | (go_simp; done) | (go_simp; rfl)); intro w18 hw; replace BK186 : Aside0 (w18.heap[gb186]? = some (.cells #[.int .i64 t181, .int .i64 t182, .int .i64 t183, .int .i64 t184] 23 (0, 0))) := ⟨(by rw [hw]; exact (by (with_reducible repeat (first | refine blk_drewN ?_ _ | refine blk_drew ?_ | refine blk_alloc ?_ _)); refine blk_far ?_ NB186_192.out _; (with_reducible repeat (first | refine blk_drewN ?_ _ | refine blk_drew ?_ | refine blk_alloc ?_ _)); refine blk_far ?_ NB186_192.out _; (with_reducible repeat (first | refine blk_drewN ?_ _ | refine blk_drew ?_ | refine blk_alloc ?_ _)); refine blk_far ?_ NB186_192.out _; (with_reducible repeat (first | refine blk_drewN ?_ _ | refine blk_drew ?_ | refine blk_alloc ?_ _)); refine blk_far ?_ NB186_192.out _; (with_reducible repeat (first | refine blk_drewN ?_ _ | refine blk_drew ?_ | refine blk_alloc ?_ _)); exact BK186.out))⟩; replace BK192 : Aside0 (w18.heap[gb192]? = some (.cells #[.int .i64 t187, .int .i64 t188, .int .i64 t189, .int .i64 t190] 23 (0, 0))) := ⟨(by rw [hw]; exact (by (with_reducible repeat (first | refine blk_drewN ?_ _ | refine blk_drew ?_ | refine blk_alloc ?_ _)); refine blk_put (cs := #[.int .i64 t187, .int .i64 t188, .int .i64 t189, .int .i64 0]) ?_ 3 _ rfl; (with_reducible repeat (first | refine blk_drewN ?_ _ | refine blk_drew ?_ | refine blk_alloc ?_ _)); refine blk_put (cs := #[.int .i64 t187, .int .i64 t188, .int .i64 0, .int .i64 0]) ?_ 2 _ rfl; (with_reducible repeat (first | refine blk_drewN ?_ _ | refine blk_drew ?_ | refine blk_alloc ?_ _)); refine blk_put (cs := #[.int .i64 t187, .int .i64 0, .int .i64 0, .int .i64 0]) ?_ 1 _ rfl; (with_reducible repeat (first | refine blk_drewN ?_ _ | refine blk_drew ?_ | refine blk_alloc ?_ _)); refine blk_put (cs := #[.int .i64 0, .int .i64 0, .int .i64 0, .int .i64 0]) ?_ 0 _ rfl; (with_reducible repeat (first | refine blk_drewN ?_ _ | refine blk_drew ?_ | refine blk_alloc ?_ _)); exact BK192.out))⟩; replace HB : Aside0 (Below w.heap.size w w18) := ⟨(by rw [hw]; exact (bl HB))⟩; clear hw; obtain ⟨hcz19_0, hcz19_1, hcz19_2, hcz19_3⟩ := ce4 BK186; obtain ⟨hfz19_0, hfz19_1, hfz19_2, hfz19_3⟩ := fr4 BK186; obtain ⟨hcz20_0, hcz20_1, hcz20_2, hcz20_3⟩ := ce4 BK192; obtain ⟨hfz20_0, hfz20_1, hfz20_2, hfz20_3⟩ := fr4 BK192) | (go_at_call 18; (with_reducible refine (sandglasslaw09_live.calls k  t193 _ A9.out).mono ?_); rintro e w21 ⟨rfl, hb⟩; replace BK186 := Aside0.mk (blk_below (bo BK186) hb); replace BK192 := Aside0.mk (blk_below (bo BK192) hb); replace HB := Aside0.mk (below_step (bl HB) hb); (try clear hb); (try clear hb2); (try clear hk); (try clear hi)))
        go_ret
        exact ⟨by first | (with_reducible rfl) | rfl | (simp [errW_none, errW_some] <;> rfl) | (simp [*, errW_none, errW_some] <;> rfl), bl HB⟩
      · rw [if_neg c8] at H
        exact absurd H (by simp)
    · rw [if_neg c7] at H
      exact absurd H (by simp)

end Go.Proofs.Ytjhipnhnbnnodaa.Q
