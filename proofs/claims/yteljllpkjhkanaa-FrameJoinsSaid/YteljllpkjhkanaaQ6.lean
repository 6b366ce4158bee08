-- Laid by wip/tools/hprint.py, a program of this repo, over the kit's print; not a text of print.sh.
import Derived.Test.YteljllpkjhkanaaQ0
import Derived.Test.YteljllpkjhkanaaQ3
import Derived.Test.YteljllpkjhkanaaQ5
namespace Go.Proofs.Yteljllpkjhkanaa.Q
open Go.RowKit Go.Proofs.Yteljllpkjhkanaa.Zip Go.Proofs.YteljllpkjhkanaaW.PrintWords Go.Proofs.YteljllpkjhkanaaW.PrintLast Go.Proofs.YteljllpkjhkanaaW.PrintMore
attribute [local go_sem] max2_int min2_int max_two min_two max_three min_three max_four min_four   -- for this text's walks alone
set_option linter.unusedVariables false
set_option linter.unusedSimpArgs false

/-! ### frame_Reader_Feed: given by hand -/
theorem step_inv {l : ByteArray} {sk : Int} {m : Bool} {M : Nat} (hl : l.size ≤ M) (h0 : 0 ≤ sk) (h1 : sk ≤ 65536) : (stepF l sk m).2.2.2.1.size ≤ M ∧ 0 ≤ (stepF l sk m).2.2.2.2.1 ∧ (stepF l sk m).2.2.2.2.1 ≤ 65536 := by
  have b0 := bt_range l 0
  have b1 := bt_range l 1
  have hm : mn sk (l.size : Int) ≤ sk ∧ 0 ≤ mn sk (l.size : Int) := by unfold mn; split <;> omega
  have ex : ∀ a b, (l.extract a b).size ≤ M := fun a b => by rw [ByteArray.size_extract]; omega
  unfold stepF
  split
  · exact ⟨ex _ _, by dsimp only; omega, by dsimp only; omega⟩
  · split
    · exact ⟨hl, h0, h1⟩
    · dsimp only
      split
      · exact ⟨ex _ _, by dsimp only; omega, by dsimp only; omega⟩
      · split
        · exact ⟨hl, h0, h1⟩
        · exact ⟨ex _ _, h0, h1⟩
def feedL : Nat → ByteArray → Int → Bool → List S37 → Bool → Option (ByteArray × Int × Bool × List S37)
  | 0, _, _, _, _, _ => none
  | k + 1, l, sk, m, out, on => if on = true then (if (stepF l sk m).2.1 = true then (if out.length < 1000000000000 then feedL k (stepF l sk m).2.2.2.1 (stepF l sk m).2.2.2.2.1 (stepF l sk m).2.2.2.2.2 (out ++ [⟨(stepF l sk m).1.1, (stepF l sk m).1.2⟩]) (stepF l sk m).2.2.1 else none) else feedL k (stepF l sk m).2.2.2.1 (stepF l sk m).2.2.2.2.1 (stepF l sk m).2.2.2.2.2 out (stepF l sk m).2.2.1) else some (l, sk, m, out)
def frame_Reader_Feed.f (k : Nat) (l : ByteArray) (sk : Int) (m : Bool) (c : ByteArray) : Option (ByteArray × Int × Bool × List S37) := if l.size + c.size ≤ 4611686018427387904 then feedL k (l ++ c) sk m [] true else none
theorem step_calls (g : Nat) (l : ByteArray) (sk : Int) (m : Bool) (w : World) (hb : w.heap[g]? = some (rdO l sk m)) (hs : l.size ≤ 4611686018427387904) (h0 : 0 ≤ sk) (h1 : sk ≤ 65536) :
    Calls Try.prog (if m = true then 18 else 15) #[.pointer (some ⟨g, 0, none⟩)] w fun e w' => e = .returned (.tuple #[.agg #[.string (stepF l sk m).1.1, .int .i64 (stepF l sk m).1.2], .bool (stepF l sk m).2.1, .bool (stepF l sk m).2.2.1]) ∧ w'.heap[g]? = some (rdO (stepF l sk m).2.2.2.1 (stepF l sk m).2.2.2.2.1 (stepF l sk m).2.2.2.2.2) ∧ w.grownBy w' (some g) := by
  cases m
  · exact frame_begin.calls g l sk w hb hs
  · exact frame_pass.calls g l sk w hb hs h0 h1
theorem belZ {w W : World} {g : Nat} (h : w.grownBy W (some g)) : Below 0 w W := ⟨h.os, h.tape, h.output, h.size, fun k hk => absurd hk (Nat.not_lt_zero k)⟩
theorem gr_trans {w wr w1 : World} {o : Obj} {g : Nat} (h : w.grownBy wr (some g)) (k : (wr.alloc o).grownBy w1 (some g)) : w.grownBy w1 (some g) := (gr_alloc h o).trans k
theorem sz2 {w wr w1 : World} {o : Obj} {g : Nat} (h : w.grownBy wr (some g)) (k : (wr.alloc o).grownBy w1 (some g)) : w.heap.size ≤ w1.heap.size := (gr_trans h k).size
theorem grU {w W w3 : World} {g : Nat} {row : Option Nat} (h : w.grownBy W (some g)) (k : W.grownBy w3 row) (hr : ∀ q, row = some q → w.heap.size ≤ q) : w.grownBy w3 (some g) :=
  ⟨k.os.trans h.os, k.tape.trans h.tape, k.output.trans h.output, Nat.le_trans h.size k.size, fun i hi hne => (k.block i (Nat.lt_of_lt_of_le hi h.size) (fun e => by have := hr i e.symm; omega)).trans (h.block i hi hne)⟩
theorem rowK {w wr w1 : World} {g : Nat} {o : Obj} {v : Value} {xs : List S37} (hr : Kd.R k37 37 wr 0 (fun k_ => w.heap.size ≤ k_) v xs) (hg : g < w.heap.size) (h : w.grownBy wr (some g)) (k : (wr.alloc o).grownBy w1 (some g)) (a b : Value) :
    Kd.R k37 37 ((w1.setCell ⟨wr.heap.size, 0, none⟩ a).setCell ⟨wr.heap.size, 1, none⟩ b) 0 (fun k_ => w.heap.size ≤ k_) v xs :=
  Kd.R_step hr (fun j hj hlt => (Below.heap_setCell _ _ _ _ (by show j ≠ wr.heap.size; omega)).trans ((Below.heap_setCell _ _ _ _ (by show j ≠ wr.heap.size; omega)).trans ((k.block j (by simp; omega) (by intro e; injection e with e; omega)).trans (Below.heap_alloc wr o j hlt))))
set_option maxHeartbeats 4000000 in
theorem frame_Reader_Feed.calls (k g : Nat) (l : ByteArray) (sk : Int) (m : Bool) (c : ByteArray) (l' : ByteArray) (sk' : Int) (m' : Bool) (out : List S37) (w : World) (hb : w.heap[g]? = some (rdO l sk m)) (h0 : 0 ≤ sk) (h1 : sk ≤ 65536) (h : frame_Reader_Feed.f k l sk m c = some (l', sk', m', out)) :
    Calls Try.prog 11 #[.pointer (some ⟨g, 0, none⟩), .string c] w fun e w' => ∃ v, e = .returned v ∧ Kd.R k37 37 w' 0 (fun k_ => w.heap.size ≤ k_) v out ∧ w'.heap[g]? = some (rdO l' sk' m') ∧ w.grownBy w' (some g) ∧ 0 ≤ sk' ∧ sk' ≤ 65536 := by
  unfold frame_Reader_Feed.f at h
  split at h
  case isFalse => cases h
  rename_i hsz
  have HB := Aside0.mk hb
  have H := Aside0.mk h
  clear h
  have glt := blk_lt hb
  have GL := Aside0.mk glt
  have c0 : w.cell? ⟨g, 0, none⟩ = some (.string l) := (blk_cell (show w.heap[g]? = some (.cells _ _ _) from hb) 0).trans rfl
  have g0 : w.frozen? ⟨g, 0, none⟩ = false := blk_frozen (show w.heap[g]? = some (.cells _ _ _) from hb) 0
  have s1 : l.size + c.size ≤ 9223372036854775807 := by omega
  have hsz' : (l ++ c).size ≤ 4611686018427387904 := by rw [ByteArray.size_append]; exact hsz
  have HSZ := Aside0.mk hsz'
  clear hb hsz' glt
  have inf : (Try.prog.info? 37).map (fun i => (i.zero, i.size, i.bytes)) = some (some (.agg #[(.string ⟨#[]⟩), (.int .i64 0)]), 2, 24) := by kernel_rfl
  go_enter Try.func11, Try.ntmps11
  go_wp2
  have HB1 := Aside0.mk (show (w.setCell ⟨g, 0, none⟩ (.string (l ++ c))).heap[g]? = some (rdO (l ++ c) sk m) from blk_put HB.out 0 _ rfl)
  have HG1 := Aside0.mk (gr_set (gr_refl w g) ⟨g, 0, none⟩ (Or.inr rfl) (.string (l ++ c)))
  have HI := Aside0.mk (And.intro h0 h1)
  have HO1 := Aside0.mk (show Kd.R k37 37 (w.setCell ⟨g, 0, none⟩ (.string (l ++ c))) 0 (fun k_ => w.heap.size ≤ k_) (.slice none 0 0) [] from Kd.R_nil _ _ _ _ _)
  clear c0 g0 s1 h0 h1 HB
  go_loopg [5, 6] k (fun kq v5 v6 w' => ∃ (l1 : ByteArray) (sk1 : Int) (m1 : Bool) (o1 : List S37) (on : Bool), v6 = .bool on ∧ Aside0 (feedL kq l1 sk1 m1 o1 on = some (l', sk', m', out)) ∧ Aside0 (w'.heap[g]? = some (rdO l1 sk1 m1)) ∧ Aside0 (Kd.R k37 37 w' 0 (fun k_ => w.heap.size ≤ k_) v5 o1) ∧ Aside0 (w.grownBy w' (some g)) ∧ Aside0 (0 ≤ sk1 ∧ sk1 ≤ 65536) ∧ Aside0 (l1.size ≤ 4611686018427387904))
  case atStart => exact ⟨_, sk, m, [], true, rfl, H, HB1, HO1, HG1, HI, HSZ⟩
  case round =>
    clear H HB1 HO1 HG1 HI HSZ hsz
    obtain ⟨l1, sk1, m1, o1, on, rfl, HA, HB, HO, HG, HI, HS⟩ := hrel
    cases gk with
    | zero => exact absurd HA.out (by simp [feedL])
    | succ k1 =>
      have H := HA.out
      clear HA
      simp only [feedL] at H
      cases on
      · rw [if_neg (by simp)] at H
        go_wp2
        go_ret
        obtain ⟨rfl, rfl, rfl, rfl⟩ : l1 = l' ∧ sk1 = sk' ∧ m1 = m' ∧ o1 = out := by simpa using H
        exact ⟨_, rfl, HO.out, HB.out, HG.out, HI.out.1, HI.out.2⟩
      · rw [if_pos rfl] at H
        have glt := blk_lt HB.out
        cases m1
        · have c2 : wr.cell? ⟨g, 2, none⟩ = some (.func (.func 15) #[] #[]) := (blk_cell (show wr.heap[g]? = some (.cells _ _ _) from HB.out) 2).trans rfl
          obtain ⟨st, hst⟩ : ∃ st, stepF l1 sk1 false = st := ⟨_, rfl⟩
          have SI := Aside0.mk (step_inv (m := false) HS.out HI.out.1 HI.out.2)
          rw [hst] at H SI
          cases hi : st.2.1
          · rw [hi, if_neg (by simp)] at H
            go_wp2_with (first | (go_loud (go_at_call 15; refine (step_calls g l1 sk1 false _ (blk_alloc HB.out _) HS.out HI.out.1 HI.out.2).mono ?_; rintro e w1 ⟨rfl, hb1, hg1⟩; rw [hst] at hb1 ⊢; have HB1 := Aside0.mk hb1; have HG1 := Aside0.mk hg1; have P1 := Aside0.mk ((hg1.block wr.heap.size (by simp) (by intro e; injection e with e; omega)).trans (blk_new wr _)); clear hb1 hg1; rw [hi]; have p0 := (blk_cell P1.out 0).trans rfl; have p1 := (blk_cell P1.out 1).trans rfl; have q0 := blk_frozen P1.out 0; have q1 := blk_frozen P1.out 1)))
            have H' := Aside0.mk H
            go_roundg k1
            case measure => omega
            case rel => exact ⟨_, _, _, o1, st.2.2.1, rfl, H', ⟨blk_far (blk_far HB1.out (by show g ≠ wr.heap.size; omega) _) (by show g ≠ wr.heap.size; omega) _⟩, ⟨rowK HO.out GL.out HG.out HG1.out _ _⟩, ⟨gr_set (gr_set (gr_trans HG.out HG1.out) ⟨wr.heap.size, 0, none⟩ (Or.inl HG.out.size) _) ⟨wr.heap.size, 1, none⟩ (Or.inl HG.out.size) _⟩, ⟨SI.out.2⟩, ⟨SI.out.1⟩⟩
          · rw [hi, if_pos rfl] at H
            split at H
            case isFalse => cases H
            rename_i hlen
            go_wp2_with (first | (go_loud (go_at_call 15; refine (step_calls g l1 sk1 false _ (blk_alloc HB.out _) HS.out HI.out.1 HI.out.2).mono ?_; rintro e w1 ⟨rfl, hb1, hg1⟩; rw [hst] at hb1 ⊢; have HB1 := Aside0.mk hb1; have HG1 := Aside0.mk hg1; have P1 := Aside0.mk ((hg1.block wr.heap.size (by simp) (by intro e; injection e with e; omega)).trans (blk_new wr _)); clear hb1 hg1; rw [hi]; have p0 := (blk_cell P1.out 0).trans rfl; have p1 := (blk_cell P1.out 1).trans rfl; have q0 := blk_frozen P1.out 0; have q1 := blk_frozen P1.out 1)) | (((with_reducible refine gate_builtin (b := .append) (xs := #[.tmp 31, .tmp 33]) rfl ?_); at_builtin; refine Kd.R_append k37 (w0 := w) 0 rfl (.tmp 31) (.tmp 33) 31 37 (.agg #[(.string ⟨#[]⟩), (.int .i64 0)]) 24 rfl Try.underlying31 inf rfl (by decide) (by omega) u5 o1 (⟨st.1.1, st.1.2⟩ : S37) [.string st.1.1, .int .i64 st.1.2] (fun k_ => w.heap.size ≤ k_) (fun _ => False) rfl (by show Value.slice (some ⟨w1.heap.size, 0, none⟩) 1 1 = _; simp) ?aP (fun _ hk => hk.elim) ?aF ?aO ?aB ?aS ?aL ?_; (case aP => exact k37_mkM _ _ _ (⟨st.1.1, st.1.2⟩ : S37)); (case aB => exact belZ (gr_set (gr_set (gr_trans HG.out HG1.out) ⟨wr.heap.size, 0, none⟩ (Or.inl HG.out.size) _) ⟨wr.heap.size, 1, none⟩ (Or.inl HG.out.size) _)); (case aF => exact (fun k hk => Nat.le_trans (sz2 HG.out HG1.out) (by simpa using hk))); (case aO => exact rowK HO.out GL.out HG.out HG1.out _ _); (case aS => exact Nat.zero_le _); (case aL => omega); intro v3 w3 ho hb3 hg3 hat3; have HO3 := Aside0.mk ho; have HG3 := Aside0.mk hg3; clear ho hb3 hg3 hat3)))
            have H' := Aside0.mk H
            go_roundg k1
            case measure => omega
            case rel => exact ⟨_, _, _, o1 ++ [⟨st.1.1, st.1.2⟩], st.2.2.1, rfl, H', ⟨(HG3.out.block g (by have := blk_lt HB1.out; simpa using this) (by intro e; have := HO.out.1 g e.symm; have := GL.out; omega)).trans (blk_far (blk_far HB1.out (by show g ≠ wr.heap.size; omega) _) (by show g ≠ wr.heap.size; omega) _)⟩, HO3, ⟨grU (gr_set (gr_set (gr_trans HG.out HG1.out) ⟨wr.heap.size, 0, none⟩ (Or.inl HG.out.size) (.string st.1.1)) ⟨wr.heap.size, 1, none⟩ (Or.inl HG.out.size) (.int .i64 st.1.2)) HG3.out (fun q e => HO.out.1 q e)⟩, ⟨SI.out.2⟩, ⟨SI.out.1⟩⟩
        · have c2 : wr.cell? ⟨g, 2, none⟩ = some (.func (.func 18) #[] #[]) := (blk_cell (show wr.heap[g]? = some (.cells _ _ _) from HB.out) 2).trans rfl
          obtain ⟨st, hst⟩ : ∃ st, stepF l1 sk1 true = st := ⟨_, rfl⟩
          have SI := Aside0.mk (step_inv (m := true) HS.out HI.out.1 HI.out.2)
          rw [hst] at H SI
          cases hi : st.2.1
          · rw [hi, if_neg (by simp)] at H
            go_wp2_with (first | (go_loud (go_at_call 18; refine (step_calls g l1 sk1 true _ (blk_alloc HB.out _) HS.out HI.out.1 HI.out.2).mono ?_; rintro e w1 ⟨rfl, hb1, hg1⟩; rw [hst] at hb1 ⊢; have HB1 := Aside0.mk hb1; have HG1 := Aside0.mk hg1; have P1 := Aside0.mk ((hg1.block wr.heap.size (by simp) (by intro e; injection e with e; omega)).trans (blk_new wr _)); clear hb1 hg1; rw [hi]; have p0 := (blk_cell P1.out 0).trans rfl; have p1 := (blk_cell P1.out 1).trans rfl; have q0 := blk_frozen P1.out 0; have q1 := blk_frozen P1.out 1)))
            have H' := Aside0.mk H
            go_roundg k1
            case measure => omega
            case rel => exact ⟨_, _, _, o1, st.2.2.1, rfl, H', ⟨blk_far (blk_far HB1.out (by show g ≠ wr.heap.size; omega) _) (by show g ≠ wr.heap.size; omega) _⟩, ⟨rowK HO.out GL.out HG.out HG1.out _ _⟩, ⟨gr_set (gr_set (gr_trans HG.out HG1.out) ⟨wr.heap.size, 0, none⟩ (Or.inl HG.out.size) _) ⟨wr.heap.size, 1, none⟩ (Or.inl HG.out.size) _⟩, ⟨SI.out.2⟩, ⟨SI.out.1⟩⟩
          · rw [hi, if_pos rfl] at H
            split at H
            case isFalse => cases H
            rename_i hlen
            go_wp2_with (first | (go_loud (go_at_call 18; refine (step_calls g l1 sk1 true _ (blk_alloc HB.out _) HS.out HI.out.1 HI.out.2).mono ?_; rintro e w1 ⟨rfl, hb1, hg1⟩; rw [hst] at hb1 ⊢; have HB1 := Aside0.mk hb1; have HG1 := Aside0.mk hg1; have P1 := Aside0.mk ((hg1.block wr.heap.size (by simp) (by intro e; injection e with e; omega)).trans (blk_new wr _)); clear hb1 hg1; rw [hi]; have p0 := (blk_cell P1.out 0).trans rfl; have p1 := (blk_cell P1.out 1).trans rfl; have q0 := blk_frozen P1.out 0; have q1 := blk_frozen P1.out 1)) | (((with_reducible refine gate_builtin (b := .append) (xs := #[.tmp 31, .tmp 33]) rfl ?_); at_builtin; refine Kd.R_append k37 (w0 := w) 0 rfl (.tmp 31) (.tmp 33) 31 37 (.agg #[(.string ⟨#[]⟩), (.int .i64 0)]) 24 rfl Try.underlying31 inf rfl (by decide) (by omega) u5 o1 (⟨st.1.1, st.1.2⟩ : S37) [.string st.1.1, .int .i64 st.1.2] (fun k_ => w.heap.size ≤ k_) (fun _ => False) rfl (by show Value.slice (some ⟨w1.heap.size, 0, none⟩) 1 1 = _; simp) ?aP (fun _ hk => hk.elim) ?aF ?aO ?aB ?aS ?aL ?_; (case aP => exact k37_mkM _ _ _ (⟨st.1.1, st.1.2⟩ : S37)); (case aB => exact belZ (gr_set (gr_set (gr_trans HG.out HG1.out) ⟨wr.heap.size, 0, none⟩ (Or.inl HG.out.size) _) ⟨wr.heap.size, 1, none⟩ (Or.inl HG.out.size) _)); (case aF => exact (fun k hk => Nat.le_trans (sz2 HG.out HG1.out) (by simpa using hk))); (case aO => exact rowK HO.out GL.out HG.out HG1.out _ _); (case aS => exact Nat.zero_le _); (case aL => omega); intro v3 w3 ho hb3 hg3 hat3; have HO3 := Aside0.mk ho; have HG3 := Aside0.mk hg3; clear ho hb3 hg3 hat3)))
            have H' := Aside0.mk H
            go_roundg k1
            case measure => omega
            case rel => exact ⟨_, _, _, o1 ++ [⟨st.1.1, st.1.2⟩], st.2.2.1, rfl, H', ⟨(HG3.out.block g (by have := blk_lt HB1.out; simpa using this) (by intro e; have := HO.out.1 g e.symm; have := GL.out; omega)).trans (blk_far (blk_far HB1.out (by show g ≠ wr.heap.size; omega) _) (by show g ≠ wr.heap.size; omega) _)⟩, HO3, ⟨grU (gr_set (gr_set (gr_trans HG.out HG1.out) ⟨wr.heap.size, 0, none⟩ (Or.inl HG.out.size) (.string st.1.1)) ⟨wr.heap.size, 1, none⟩ (Or.inl HG.out.size) (.int .i64 st.1.2)) HG3.out (fun q e => HO.out.1 q e)⟩, ⟨SI.out.2⟩, ⟨SI.out.1⟩⟩

end Go.Proofs.Yteljllpkjhkanaa.Q
