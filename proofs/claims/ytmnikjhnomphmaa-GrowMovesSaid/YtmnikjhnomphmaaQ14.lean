-- Laid by wip/tools/hprint.py, a program of this repo, over the kit's print; not a text of print.sh.
import Derived.Test.YtmnikjhnomphmaaQ0
import Derived.Test.YtmnikjhnomphmaaQ2
import Derived.Test.YtmnikjhnomphmaaQ8
import Derived.Test.YtmnikjhnomphmaaQ13
namespace Go.Proofs.Ytmnikjhnomphmaa.Q
open Go.RowKit Go.Proofs.Ytmnikjhnomphmaa.Zip Go.Proofs.YtmnikjhnomphmaaW.PrintWords Go.Proofs.YtmnikjhnomphmaaW.PrintLast Go.Proofs.YtmnikjhnomphmaaW.PrintMore
attribute [local go_sem] max2_int min2_int max_two min_two max_three min_three max_four min_four   -- for this text's walks alone
set_option linter.unusedVariables false
set_option linter.unusedSimpArgs false

/-! ### robin_Table_all: given by hand -/
open Go.Shelf
theorem wide_fn (f : FuncId) : Fence.wide.fn f = True := rfl
attribute [local go_sem] Oper.semAt_some wide_fn
/-- The keys of a row of slots. -/
def keyL (l : List S84) : List ByteArray := (l.filter (·.f0)).map (·.f1)
theorem keyL_take (l : List S84) (j : Nat) (h : j < l.length) : keyL (l.take (j + 1)) = keyL (l.take j) ++ (if (rd_T84 l (j : Int)).f0 = true then [(rd_T84 l (j : Int)).f1] else []) := by
  have e : l.take (j + 1) = l.take j ++ [rd_T84 l (j : Int)] := by
    rw [List.take_add_one, rdT_at h]; rfl
  unfold keyL
  rw [e, List.filter_append, List.map_append]
  congr 1
  by_cases hu : (rd_T84 l (j : Int)).f0 = true
  · rw [if_pos hu]; simp [hu]
  · rw [if_neg hu]; simp [hu]
theorem keyL_len (l : List S84) (j : Nat) : (keyL (l.take j)).length ≤ j := by
  unfold keyL
  rw [List.length_map]
  exact Nat.le_trans (List.length_filter_le _ _) (by rw [List.length_take]; omega)
theorem keyL_pre (l : List S84) (j : Nat) : keyL (l.take j) <+: keyL l := by
  have e : keyL l = keyL (l.take j) ++ keyL (l.drop j) := by
    unfold keyL; rw [← List.map_append, ← List.filter_append, List.take_append_drop]
  exact ⟨_, e.symm⟩
/-- What a round keeps: rows of slots. -/
def KeepS (W W' : World) : Prop := ∀ (k : Nat) (cs : Array Value), W.heap[k]? = some (Obj.cells cs 84 (0, 0)) → W'.heap[k]? = some (Obj.cells cs 84 (0, 0))
def robin_Table_all.f : Option Int := some 0
theorem robin_Table_all.calls (p : Option Addr) (w : World) : Calls Try.prog 43 #[.pointer p] w fun e w' => e = .returned (.func (.func 52) #[] #[.pointer (some ⟨w.heap.size, 0, none⟩)]) ∧ w' = w.alloc (.cells #[.pointer p] 58) := by
  go_enter Try.func43, Try.ntmps43
  go_wp2
  go_ret
  exact ⟨rfl, rfl⟩
theorem all1_stops_nil (n : Nat) (hn : 1 ≤ n) (Bt : Nat) (w : World) (hp : w.heap[Bt]? = some (.cells #[.pointer none] 58 (0, 0))) (N : Nat) :
    SeqStopsK Fence.wide n Try.prog 52 #[.pointer (some ⟨Bt, 0, none⟩)] (fun x : ByteArray => #[.string x]) KeepS (fun xs => xs = []) (fun _ => False) N w := fun ll J Jx W hW hJ hJx hY h0 => by
  have q0 : W.cell? ⟨Bt, 0, none⟩ = some (.pointer none) := by rw [cell_of_row W Bt _ _ 58 (0, 0) ((hW.block _ (blk_lt hp)).trans hp)]; rfl
  have H0 := Aside0.mk h0
  clear h0 hp
  refine callsIn_of_wp Try.func52 rfl trivial ?_ rfl
  simp only [Try.ntmps52, List.size_toArray, List.length_cons, List.length_nil, Nat.reduceAdd, Nat.reduceSub, Array.replicate_succ, Array.replicate_zero, List.push_toArray, List.append_toArray, List.nil_append, List.cons_append]
  gi_wp2_with (first | (gi_at_call 49; refine (callsIn_wide.2 (robin_Table_Slots.calls_nil _)).mono ?_; rintro e w1 ⟨rfl, hw⟩; obtain rfl : W = w1 := hw.symm))
  gi_loopw [8] (fun u wr => u = .int .i64 0 ∧ Aside0 (J [] wr)) (fun _ _ => 0)
  case atStart => exact ⟨rfl, H0⟩
  case round =>
    clear H0
    obtain ⟨rfl, HJ⟩ := hrel
    gi_wp2
    go_end0
    exact ⟨⟨_, rfl⟩, .inl ⟨[], rfl, HJ.out⟩⟩
theorem typed_row {W : World} {base n c : Nat} {ok : Nat → Prop} {A : Option Addr} {l : List S84} (h : Kd.R k84 84 W base ok (.slice A n c) l) : ∃ cs, ∀ g_, A = some g_ → W.heap[g_.block]? = some (.cells cs 84 (0, 0)) := by
  obtain ⟨_, inner, ho, _⟩ := h
  cases A with
  | none => exact ⟨#[], fun _ e => by cases e⟩
  | some ad =>
    obtain ⟨cells, hc⟩ := own_typed ho ad.block (by simp [Value.ownBlock])
    exact ⟨cells, fun g_ e => by cases e; exact hc⟩
theorem all1_stops (n : Nat) (hn : 1 ≤ n) (Bt g gs : Nat) (sd bi us : Int) (l : List S84) (w : World) (hp : w.heap[Bt]? = some (.cells #[.pointer (some ⟨g, 0, none⟩)] 58 (0, 0))) (ht : Tab g gs sd bi l us w) (hl : l.length ≤ 1000000) :
    SeqStopsK Fence.wide n Try.prog 52 #[.pointer (some ⟨Bt, 0, none⟩)] (fun x : ByteArray => #[.string x]) KeepS (fun xs => xs = keyL l) (fun pre => pre <+: keyL l) l.length w := fun ll J Jx W hW hJ hJx hY h0 => by
  have q0 : W.cell? ⟨Bt, 0, none⟩ = some (.pointer (some ⟨g, 0, none⟩)) := by rw [cell_of_row W Bt _ _ 58 (0, 0) ((hW.block _ (blk_lt hp)).trans hp)]; rfl
  have HT := Aside0.mk (ht.below hW)
  have H0 := Aside0.mk h0
  clear h0 hp ht
  refine callsIn_of_wp Try.func52 rfl trivial ?_ rfl
  simp only [Try.ntmps52, List.size_toArray, List.length_cons, List.length_nil, Nat.reduceAdd, Nat.reduceSub, Array.replicate_succ, Array.replicate_zero, List.push_toArray, List.append_toArray, List.nil_append, List.cons_append]
  gi_wp2_with (first | (gi_at_call 49; refine (callsIn_wide.2 (robin_Table_Slots.calls g gs sd bi us l _ HT.out hl)).mono ?_; rintro e w1 ⟨v, rfl, ho, hb⟩; obtain ⟨Av, cv, rfl⟩ := Kd.R_slice ho; have HO := Aside0.mk ho; have HJ1 := Aside0.mk (hJ [] W w1 none H0.out ⟨hb.os, hb.tape, hb.output, hb.size, fun k hk _ => hb.block k hk⟩ (fun r e => by cases e)); clear hb ho))
  have HB := Aside0.mk (show ∃ cs, ∀ g_, Av = some g_ → w1.heap[g_.block]? = some (.cells cs 84 (0, 0)) from typed_row HO.out)
  obtain ⟨cs, hcs⟩ := HB.out
  have HCS := Aside0.mk hcs
  clear hcs HB
  have HC := Aside0.mk (Kd.R_reads' HO.out).2.2
  gi_loopw [8] (fun u wr => ∃ j : Nat, j ≤ l.length ∧ u = .int .i64 (j : Int) ∧ Aside0 (J (keyL (l.take j)) wr) ∧ Aside0 (∀ g_, Av = some g_ → wr.heap[g_.block]? = some (.cells cs 84 (0, 0))))
    (fun u _ => (l.length - (intOf u).toNat))
  case atStart => exact ⟨0, Nat.zero_le _, rfl, HJ1, HCS⟩
  case round =>
    clear HJ1
    obtain ⟨j, hj, rfl, HJ, HR⟩ := hrel
    by_cases hlt : j < l.length
    case neg =>
      obtain rfl : j = l.length := by omega
      have e1 : decide (l.length < l.length) = false := decide_eq_false (by omega)
      gi_wp2
      go_end0
      refine ⟨⟨_, rfl⟩, .inl ⟨_, rfl, ?_⟩⟩
      have := HJ.out
      rwa [List.take_length] at this
    have e1 : decide (j < l.length) = true := decide_eq_true hlt
    obtain ⟨ad, ea, x0, x1, x2, x3⟩ := at_T84 HC.out (j : Int) (by omega) (by omega)
    subst ea
    have hbk : wr.heap[ad.block]? = w1.heap[ad.block]? := (HR.out ad rfl).trans (HCS.out ad rfl).symm
    have hbk2 : wr.heap[(ad.add (j * 4)).block]? = w1.heap[(ad.add (j * 4)).block]? := by
      have : (ad.add (j * 4)).block = ad.block := by unfold Addr.add; split <;> rfl
      rw [this]; exact hbk
    simp only [Int.toNat_natCast] at x0 x1 x2 x3
    replace x0 := (World.cell?_of_block (w := w1) (a := ad.add (j * 4)) hbk2).trans x0
    replace x1 := (World.cell?_of_block (w := w1) (a := ⟨(ad.add (j * 4)).block, (ad.add (j * 4)).off + 1, none⟩) hbk2).trans x1
    replace x2 := (World.cell?_of_block (w := w1) (a := ⟨(ad.add (j * 4)).block, (ad.add (j * 4)).off + 2, none⟩) hbk2).trans x2
    replace x3 := (World.cell?_of_block (w := w1) (a := ⟨(ad.add (j * 4)).block, (ad.add (j * 4)).off + 3, none⟩) hbk2).trans x3
    clear hbk hbk2
    have hsnoc := keyL_take l j hlt
    have hlen := keyL_len l j
    have hpre := keyL_pre l (j + 1)
    have dj : IntKind.i64.wrap ((j : Int) + 1) = (j : Int) + 1 := IntWalk.i64_in _ ⟨by omega, by omega⟩
    by_cases hu : (rd_T84 l (j : Int)).f0 = true
    case neg =>
      rw [if_neg hu, List.append_nil] at hsnoc
      rw [Bool.not_eq_true] at hu
      rw [hu] at x0
      have HJa := Aside0.mk (hJ (keyL (l.take j)) wr (wr.alloc (.cells #[.bool false, .string (rd_T84 l (j : Int)).f1, .int .i64 (rd_T84 l (j : Int)).f2, .int .i64 (rd_T84 l (j : Int)).f3] 84)) none HJ.out ⟨rfl, rfl, rfl, by simp, fun k hk _ => Below.heap_alloc wr _ k hk⟩ (fun r e => by cases e))
      have HRa := Aside0.mk (fun g_ (e : some ad = some g_) => blk_alloc (HR.out g_ e) (.cells #[.bool false, .string (rd_T84 l (j : Int)).f1, .int .i64 (rd_T84 l (j : Int)).f2, .int .i64 (rd_T84 l (j : Int)).f3] 84))
      have HSN := Aside0.mk hsnoc
      have HLT := Aside0.mk hlt
      clear hsnoc hlen hpre
      gi_wp2
      go_roundw
      case rel => exact ⟨j + 1, HLT.out, rfl, ⟨by rw [HSN.out]; exact HJa.out⟩, HRa⟩
      case measure => have := HLT.out; simp [intOf]; omega
    rw [if_pos hu] at hsnoc
    rw [hu] at x0
    have HJa := Aside0.mk (hJ (keyL (l.take j)) wr (wr.alloc (.cells #[.bool true, .string (rd_T84 l (j : Int)).f1, .int .i64 (rd_T84 l (j : Int)).f2, .int .i64 (rd_T84 l (j : Int)).f3] 84)) none HJ.out ⟨rfl, rfl, rfl, by simp, fun k hk _ => Below.heap_alloc wr _ k hk⟩ (fun r e => by cases e))
    have HRa := Aside0.mk (fun g_ (e : some ad = some g_) => blk_alloc (HR.out g_ e) (.cells #[.bool true, .string (rd_T84 l (j : Int)).f1, .int .i64 (rd_T84 l (j : Int)).f2, .int .i64 (rd_T84 l (j : Int)).f3] 84))
    obtain ⟨fn, tmps, assign, body, hy, hRn⟩ := hY (keyL (l.take j)) (rd_T84 l (j : Int)).f1 _ HJa.out (by omega)
    have HSN := Aside0.mk hsnoc
    have HLT := Aside0.mk hlt
    have HPR := Aside0.mk hpre
    clear hsnoc hlen hpre
    gi_wp2
    refine hRn.mono ?_
    rintro e W3 (⟨rfl, hJ3, hk3⟩ | ⟨rfl, hJx3⟩)
    · have HJ3 := Aside0.mk hJ3
      have HR3 := Aside0.mk (fun g_ (e : some ad = some g_) => hk3 _ _ (HRa.out g_ e))
      clear hJ3 hk3
      gi_wp2
      go_roundw
      case rel => exact ⟨j + 1, HLT.out, rfl, ⟨by rw [HSN.out]; exact HJ3.out⟩, HR3⟩
      case measure => have := HLT.out; simp [intOf]; omega
    · have HJ3 := Aside0.mk hJx3
      clear hJx3
      gi_wp2
      refine bodyPost_ret (results_none rfl _ _ _) rfl ?_
      refine ⟨⟨_, rfl⟩, .inr ⟨_, HPR.out, ?_⟩⟩
      rw [HSN.out]; exact HJ3.out

end Go.Proofs.Ytmnikjhnomphmaa.Q
