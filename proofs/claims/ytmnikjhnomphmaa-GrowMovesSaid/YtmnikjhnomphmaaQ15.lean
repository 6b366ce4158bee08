-- Laid by wip/tools/hprint.py, a program of this repo, over the kit's print; not a text of print.sh.
import Derived.Test.YtmnikjhnomphmaaQ0
import Derived.Test.YtmnikjhnomphmaaQ2
import Derived.Test.YtmnikjhnomphmaaQ11
import Derived.Test.YtmnikjhnomphmaaQ14
namespace Go.Proofs.Ytmnikjhnomphmaa.Q
open Go.RowKit Go.Proofs.Ytmnikjhnomphmaa.Zip Go.Proofs.YtmnikjhnomphmaaW.PrintWords Go.Proofs.YtmnikjhnomphmaaW.PrintLast Go.Proofs.YtmnikjhnomphmaaW.PrintMore
attribute [local go_sem] max2_int min2_int max_two min_two max_three min_three max_four min_four   -- for this text's walks alone
set_option linter.unusedVariables false
set_option linter.unusedSimpArgs false

/-! ### robin_Table_Keys: given by hand -/
open Go.Shelf
attribute [local go_sem] Oper.semAt_some wide_fn
/-- Between two rounds: the keys that have come. -/
def KI (w : World) (N : Nat) (pre : List ByteArray) (W : World) : Prop := ∃ v, W.heap[w.heap.size]? = some (Obj.cells #[v] 41 (0, 0)) ∧ Kd.R Kd.string 9 W w.heap.size (fun k => N ≤ k) v pre ∧ Below w.heap.size w W ∧ N ≤ W.heap.size
theorem KI.own {w : World} {N : Nat} (hN : w.heap.size < N) : OwnFrom N (KI w N) := fun s W W' row hs hg hr => by
  obtain ⟨v, hb, hR, hB, hz⟩ := hs
  refine ⟨v, (hg.block _ (blk_lt hb) (fun e => by have := (hr _ e.symm).1; omega)).trans hb, ?_, hB.grown hg hB.size (fun q e => by have := (hr _ e).1; omega), Nat.le_trans hz hg.size⟩
  refine Kd.R_mono (Kd.R_grown (Kd.R_bound hR) hg (fun k hk e => ?_)) (fun k hk => hk.1)
  obtain ⟨o, ho, hc⟩ := (hr k e.symm).2
  obtain ⟨q, _, cells, hcs⟩ := hk.2.2.2
  rw [hcs] at ho
  cases ho
  cases hc
def robin_Table_Keys.f : Option Int := some 0
set_option maxRecDepth 100000 in
set_option maxHeartbeats 2000000 in
theorem keys_calls (p : Option Addr) (ks : List ByteArray) (M : Nat) (hM : M ≤ 100000) (hks : ks.length ≤ 100000) (w : World)
    (hseq : SeqStopsK Fence.wide 4 Try.prog 52 #[.pointer (some ⟨w.heap.size + 1, 0, none⟩)] (fun x : ByteArray => #[.string x]) KeepS (fun xs => xs = ks) (fun pre => pre <+: ks) M ((w.alloc (.cells #[.slice none 0 0] 41)).alloc (.cells #[.pointer p] 58))) :
    Calls Try.prog 33 #[.pointer p] w fun e w' => ∃ v, e = .returned v ∧ Kd.R Kd.string 9 w' w.heap.size (fun _ => True) v (sortB ks) ∧ Below w.heap.size w w' := by
  refine (callsIn_wide (n := 5)).1 ?_
  refine callsIn_of_wp_marks Try.func33 rfl trivial ?_ rfl
  simp only [Try.ntmps33, List.size_toArray, List.length_cons, List.length_nil, Nat.reduceAdd, Nat.reduceSub, Array.replicate_succ, Array.replicate_zero, List.push_toArray, List.append_toArray, List.nil_append, List.cons_append]
  refine wpIn_wide.2 ?_
  go_wp2_with (go_at_call 43; refine (robin_Table_all.calls p _).mono ?_; rintro e w1 ⟨rfl, rfl⟩)
  have H0 := Aside0.mk (show KI w (w.heap.size + 2) [] ((w.alloc (.cells #[.slice none 0 0] 41)).alloc (.cells #[.pointer p] 58)) from ⟨_, blk_alloc (blk_new w _) _, Kd.R_nil _ _ _ _ _, ((Below.refl w.heap.size w).alloc (Nat.le_refl _) _).alloc (by simp) _, by simp⟩)
  have inf : (Try.prog.info? 9).map (fun i => (i.zero, i.size, i.bytes)) = some (some (.string ⟨#[]⟩), 1, 16) := by kernel_rfl
  obtain ⟨i0, hi0, hzz⟩ := Option.map_eq_some_iff.1 inf
  simp only [Prod.mk.injEq] at hzz
  obtain ⟨hz0, hz1, hz2⟩ := hzz
  refine (wpIn_wide (n := 5)).1 ?_
  refine wpIn_rangeFunc_ownF (α := ByteArray) rfl (by omega) (gf := 52) (lb := #[.pointer (some ⟨w.heap.size + 1, 0, none⟩)]) rfl trivial (enters_of Try.func52 (by kernel_rfl) rfl) hseq
    (fun h k a b hx => k a b (h a b hx)) (fun W l o o' hl ho hc _ k cs hx => by
      by_cases e : k = l
      · subst e; rw [hx] at ho; cases ho; cases hc
      · exact (World.putObj_heap_other e).trans hx) (Below.refl _ _) (fun _ => rfl)
    (KI w (w.heap.size + 2)) (fun _ _ _ => False) (by have := KI.own (w := w) (N := w.heap.size + 2) (by omega); simpa using this) (fun _ _ _ _ _ hs _ _ => hs) H0.out
    (fun x => { tmps := #[.pointer p, undef, .slice none 0 0, .pointer (some ⟨w.heap.size, 0, none⟩), .string x, .pointer p, .func (.func 52) #[] #[.pointer (some ⟨w.heap.size + 1, 0, none⟩)], .string x, undef, undef, undef, undef, undef, undef, undef], defers := [] }) ?assign ?body ?done ?stop
  case assign =>
    intro l x W K hK
    gi_wp2
    exact hK
  case body =>
    rintro ll pre x W hi hlen
    clear H0 hseq
    obtain ⟨v, hb, hR, hB, hz⟩ := hi
    have HB := Aside0.mk hb
    have HR := Aside0.mk hR
    have HW := Aside0.mk hB
    have HZ := Aside0.mk hz
    have v0 : W.cell? ⟨w.heap.size, 0, none⟩ = some v := (blk_cell hb 0).trans rfl
    obtain ⟨h0, inner, hown, hr⟩ := hR
    have HO := Aside0.mk (own_alloc hown (.cells #[.string x] 9))
    have HH0 := Aside0.mk h0
    have HRP := Aside0.mk hr
    clear hb hB hz h0 hown hr
    gi_wp2_with (first | (gi_at_builtin; refine wpListIn_append_own_at _ rfl (.tmp 8) (.tmp 10) 41 rfl w.heap.size 9 i0 (.string ⟨#[]⟩) 1 16 Try.underlying41 hi0 hz0 hz1 hz2 rfl (by decide) v pre.length inner rfl HO.out ⟨W.heap.size, 0, none⟩ 1 1 [.string x] (by show Value.slice (some ⟨W.heap.size, 0, none⟩) 1 1 = _; simp) rfl ?hc (by simp [Value.oneCell']) ?hb1 ?hb2 ?hb3 ?_; (case hc => intro j u hu; match j, hu with | 0, hu => (obtain rfl : Value.string x = u := by simpa using hu); exact (blk_cell (blk_new W _) 0).trans rfl); (case hb1 => unfold maxLen; omega); (case hb2 => omega); (case hb3 => have := HW.out.size; simp; omega); intro v1 w1 hown1 hg1 hz1 hat1; have HO1 := Aside0.mk hown1; have HG1 := Aside0.mk hg1; have HA1 := Aside0.mk hat1; have HB1 := Aside0.mk ((hg1.block _ (by have := blk_lt HB.out; simp; omega) (fun e => by have := HH0.out _ e.symm; omega)).trans (blk_alloc HB.out (.cells #[.string x] 9))); have v1c : w1.cell? ⟨w.heap.size, 0, none⟩ = some v := (blk_cell HB1.out 0).trans rfl; have v1f : w1.frozen? ⟨w.heap.size, 0, none⟩ = false := blk_frozen HB1.out 0; have hsl := hown1.2; clear hown1 hg1 hz1 hat1; rcases hsl with ⟨rfl, hn0⟩ | ⟨g1, cap1, cur1, rfl, _⟩; exact absurd hn0 (by omega)))
    have hown1 : w1.ownsRow w.heap.size 9 Kd.string.sz (.slice (some ⟨g1, 0, none⟩) (pre.length + 1) cap1) (pre.length + 1) (inner ++ [Value.string x]) := HO1.out
    have HAP := Kd.R_appended (d := Kd.string) (e := 9) (ok := fun k => w.heap.size + 2 ≤ k) (okp := fun _ => False) (p := x) (cs := [Value.string x]) (W := W.alloc (.cells #[.string x] 9)) HH0.out (show Reps _ _ _ _ from HRP.out) rfl (fun _ h => h.elim) (fun k hk => by have := HZ.out; simp at hk; omega) hown1 HG1.out (HA1.out.imp id (fun e => ⟨_, e, Nat.le_refl _⟩))
    refine ⟨((KeepsOthers.alloc W _).trans (KeepsOthers.of_grownBy HG1.out (fun j o e ho => by obtain ⟨cells, hc⟩ := own_typed HO.out j e; rw [hc] at ho; cases ho; rfl))).trans (KeepsOthers.setCell _ _ _), fun k cs hk => ?_, _, blk_put HB1.out 0 _ rfl, Kd.R_far (p := ⟨w.heap.size, 0, none⟩) HAP (fun k hk => by show k ≠ w.heap.size; omega) _, ?_, ?_⟩
    · have hne : k ≠ w.heap.size := by
        rintro rfl
        rw [HB.out] at hk
        simp at hk
      have hne2 : v.ownBlock ≠ some k := fun e => by
        obtain ⟨cells, hc⟩ := own_typed HO.out k e
        rw [blk_alloc hk] at hc
        simp at hc
      exact blk_far ((HG1.out.block k (by have := blk_lt hk; simp; omega) (fun e => hne2 e.symm)).trans (blk_alloc hk _)) hne _
    · exact ((HW.out.alloc HW.out.size _).grown HG1.out (by have := HW.out.size; simp; omega) (fun q e => by have := HH0.out q e; omega)).setCell (p := ⟨w.heap.size, 0, none⟩) (Nat.le_refl _) _
    · have h1 := HZ.out
      have h2 := HG1.out.size
      simp [World.setCell] at h2 ⊢
      omega
  case done =>
    rintro D xs W hD rfl hi hK
    obtain ⟨v, hb, hR, hB, hz⟩ := hi
    have HB := Aside0.mk hb
    have HR := Aside0.mk hR
    have HW := Aside0.mk hB
    have v0 : W.cell? ⟨w.heap.size, 0, none⟩ = some v := (blk_cell hb 0).trans rfl
    clear hb hB
    have HKD := Aside0.mk hK
    have HZ := Aside0.mk hz
    clear hK hz hR
    gi_wp2
    go_wp2_with (go_at_call 34; refine (slices_Sort_string_string.calls _ w.heap.size _ v xs (by omega) HR.out).mono ?_; rintro e w1 ⟨rfl, ho, hg⟩; have HO1 := Aside0.mk ho; have HG1 := Aside0.mk hg; have v1c : w1.cell? ⟨w.heap.size, 0, none⟩ = some v := (blk_cell ((hg.block _ (blk_lt HB.out) (fun e => by have := HR.out.1 _ e.symm; omega)).trans HB.out) 0).trans rfl; clear ho hg)
    have hK1 : w1.heap[D]? = some (.deferred (some [])) := (HG1.out.block D (blk_lt HKD.out) (fun e => by
      obtain ⟨_, inner, hown, _⟩ := HR.out
      obtain ⟨cells, hc⟩ := own_typed hown D e.symm
      rw [HKD.out] at hc; cases hc)).trans HKD.out
    refine ⟨by simp, .inl ⟨_, _, rfl, run_takeDeferred hK1, ?_⟩⟩
    have hD' : w.heap.size < D := by simp at hD; omega
    refine ⟨_, results_tmp rfl _ _ _, v, rfl, ?_, (HW.out.grown HG1.out HW.out.size (fun q e => by have := HR.out.1 q e; omega)).trans (belowK_b (w := w) (Nat.le_refl _) _ D _ _ (by omega) hK1 rfl rfl)⟩
    refine Kd.R_mono (Kd.R_step (Kd.R_bound HO1.out) (fun k hk _ => World.putObj_heap_other (fun e => ?_))) (fun _ _ => trivial)
    obtain ⟨q, _, cells, hcs⟩ := hk.2.2.2
    rw [e, hK1] at hcs
    cases hcs
  case stop =>
    rintro D c pre W _ _ h _
    exact h.elim
theorem robin_Table_Keys.calls_nil (w : World) : Calls Try.prog 33 #[.pointer none] w fun e w' => ∃ v, e = .returned v ∧ Kd.R Kd.string 9 w' w.heap.size (fun _ => True) v [] ∧ Below w.heap.size w w' := by
  have h := keys_calls none [] 0 (by omega) (by simp) w (fun ll J Jx W hW hJ hJx hY h0 => (all1_stops_nil 4 (by omega) (w.heap.size + 1) _ (by have := blk_new (w.alloc (.cells #[.slice none 0 0] 41)) (.cells #[.pointer none] 58); simpa using this) 0 ll J Jx W hW hJ hJx hY h0).mono (fun e w' hp => ⟨hp.1, hp.2.imp id (fun ⟨_, hf, _⟩ => hf.elim)⟩))
  have e : sortB [] = [] := by simp [sortB]
  rwa [e] at h
theorem keyL_le (l : List S84) : (keyL l).length ≤ l.length := by
  have := keyL_len l l.length
  rwa [List.take_length] at this
theorem robin_Table_Keys.calls (g gs : Nat) (sd bi us : Int) (l : List S84) (w : World) (ht : Tab g gs sd bi l us w) (hl : l.length ≤ 100000) :
    Calls Try.prog 33 #[.pointer (some ⟨g, 0, none⟩)] w fun e w' => ∃ v, e = .returned v ∧ Kd.R Kd.string 9 w' w.heap.size (fun _ => True) v (sortB (keyL l)) ∧ Below w.heap.size w w' :=
  keys_calls (some ⟨g, 0, none⟩) (keyL l) l.length hl (Nat.le_trans (keyL_le l) hl) w (all1_stops 4 (by omega) (w.heap.size + 1) g gs sd bi us l _ (by have := blk_new (w.alloc (.cells #[.slice none 0 0] 41)) (.cells #[.pointer (some ⟨g, 0, none⟩)] 58); simpa using this) ((ht.below (below_alloc (Below.refl _ _) _)).below (below_alloc (Below.refl _ _) _)) (by omega))

end Go.Proofs.Ytmnikjhnomphmaa.Q
