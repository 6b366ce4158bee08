-- Laid by wip/tools/hprint.py, a program of this repo, over the kit's print; not a text of print.sh.
import Derived.Test.YteljllpkjhkanaaQ0
import Derived.Test.YteljllpkjhkanaaQ1
import Derived.Test.YteljllpkjhkanaaQ2
namespace Go.Proofs.Yteljllpkjhkanaa.Q
open Go.RowKit Go.Proofs.Yteljllpkjhkanaa.Zip Go.Proofs.YteljllpkjhkanaaW.PrintWords Go.Proofs.YteljllpkjhkanaaW.PrintLast Go.Proofs.YteljllpkjhkanaaW.PrintMore
attribute [local go_sem] max2_int min2_int max_two min_two max_three min_three max_four min_four   -- for this text's walks alone
set_option linter.unusedVariables false
set_option linter.unusedSimpArgs false

/-! ### frame_begin: given by hand -/
/-- A Reader's block. -/
def rdO (l : ByteArray) (sk : Int) (m : Bool) : Obj := .cells #[.string l, .int .i64 sk, .func (.func (if m = true then 18 else 15)) #[] #[]] 46 (0, 0)
/-- One step of a Reader: a piece, whether it is one, whether it goes on; and the Reader behind it. -/
def stepF (l : ByteArray) (sk : Int) (m : Bool) : (ByteArray × Int) × Bool × Bool × ByteArray × Int × Bool :=
  if m = true then
    let n := mn sk (l.size : Int)
    ((ByteArray.empty, 0), false, !decide (sk - n > 0), l.extract n.toNat l.size, sk - n, decide (sk - n > 0))
  else if l.size < 2 then ((ByteArray.empty, 0), false, false, l, sk, false)
  else
    let n := 256 * bt l 0 + bt l 1
    if n < 1 ∨ n > 512 then ((ByteArray.empty, 8), true, true, l.extract 2 l.size, n, true)
    else if (l.size : Int) - 2 < n then ((ByteArray.empty, 0), false, false, l, sk, false)
    else ((l.extract 2 (2 + n).toNat, 0), true, true, l.extract (2 + n).toNat l.size, sk, false)
theorem gr_below {w w1 : World} {o : Obj} (h : Below (w.alloc o).heap.size (w.alloc o) w1) (g : Nat) : w.grownBy w1 (some g) :=
  ⟨h.os, h.tape, h.output, by have := h.size; simp at this; omega, fun i hi _ => (h.block i (by simp; omega)).trans (Below.heap_alloc w o i hi)⟩
theorem gr_set {w w1 : World} {g : Nat} (h : w.grownBy w1 (some g)) (p : Addr) (hp : w.heap.size ≤ p.block ∨ p.block = g) (v : Value) : w.grownBy (w1.setCell p v) (some g) :=
  ⟨h.os, h.tape, h.output, by have := h.size; simpa using this, fun i hi hne => (Below.heap_setCell _ _ _ _ (fun e => by rcases hp with h1 | h1; omega; exact hne (by rw [e, h1]))).trans (h.block i hi hne)⟩
theorem gr_drew {w w1 : World} {g : Nat} (h : w.grownBy w1 (some g)) : w.grownBy w1.drew (some g) := ⟨h.os, h.tape, h.output, h.size, h.block⟩
theorem results_cell_tmp2 {P : Program} {fn : Func} {p a b : Tmp} {ty : TypeId} (h : fn.results = #[.cell p ty, .tmp a, .tmp b]) (tmps : Array Value) (w : World) (g : Nat) (t : TypeId) (cs : Array Value) (fr : Nat × Nat) (d : TypeDesc)
    (hp : tmps.getD p undef = .pointer (some ⟨g, 0, none⟩)) (hg : w.heap[g]? = some (.cells cs t fr))
    (hu : P.underlying ty = some d) (hd : (match d with | .struct _ | .array _ _ => true | _ => false) = true) (hi : (P.info? ty).map (·.size) = some cs.size) :
    (results fn tmps).run P w = .ok (.tuple #[.agg cs, tmps.getD a undef, tmps.getD b undef]) w := by
  have hp' : tmps[p]?.getD undef = .pointer (some ⟨g, 0, none⟩) := by simpa using hp
  simp [results, h, hp', asAddr, run_loadVar_row w g t ty cs fr d hg hu hd hi, Sem.run_bind]
theorem num2 {l : ByteArray} (h : 2 ≤ l.size) : numAt l 0 2 = (256 * bt l 0 + bt l 1, 2, 0) := by
  unfold numAt
  rw [if_neg (by omega), if_neg (by omega)]
  obtain ⟨⟨d⟩⟩ := l
  have h' : 2 ≤ d.length := h
  match d, h' with
  | x :: y :: r, _ =>
    have h0 : bt ⟨⟨x :: y :: r⟩⟩ 0 = (x.toNat : Int) := by unfold bt; rw [dif_pos (show (0 : Int).toNat < ByteArray.size ⟨⟨x :: y :: r⟩⟩ by show 0 < r.length + 1 + 1; omega)]; rfl
    have h1 : bt ⟨⟨x :: y :: r⟩⟩ 1 = (y.toNat : Int) := by unfold bt; rw [dif_pos (show (1 : Int).toNat < ByteArray.size ⟨⟨x :: y :: r⟩⟩ by show 1 < r.length + 1 + 1; omega)]; rfl
    rw [h0, h1]
    simp [numL]
    omega
def frame_begin.f (l : ByteArray) : Option Int := some 0
set_option maxHeartbeats 4000000 in
theorem frame_begin.calls (g : Nat) (l : ByteArray) (sk : Int) (w : World) (hb : w.heap[g]? = some (rdO l sk false)) (hs : l.size ≤ 4611686018427387904) :
    Calls Try.prog 15 #[.pointer (some ⟨g, 0, none⟩)] w fun e w' => e = .returned (.tuple #[.agg #[.string (stepF l sk false).1.1, .int .i64 (stepF l sk false).1.2], .bool (stepF l sk false).2.1, .bool (stepF l sk false).2.2.1]) ∧ w'.heap[g]? = some (rdO (stepF l sk false).2.2.2.1 (stepF l sk false).2.2.2.2.1 (stepF l sk false).2.2.2.2.2) ∧ w.grownBy w' (some g) := by
  have hb' : w.heap[g]? = some (.cells #[.string l, .int .i64 sk, .func (.func 15) #[] #[]] 46 (0, 0)) := hb
  have HB := Aside0.mk hb'
  have c0 : w.cell? ⟨g, 0, none⟩ = some (.string l) := by rw [blk_cell hb']; rfl
  have f0 : w.frozen? ⟨g, 0, none⟩ = false := blk_frozen hb' 0
  have f1 : w.frozen? ⟨g, 1, none⟩ = false := blk_frozen hb' 1
  have f2 : w.frozen? ⟨g, 2, none⟩ = false := blk_frozen hb' 2
  have glt := blk_lt hb'
  have hbt := bt_range l 0
  have hbt1 := bt_range l 1
  by_cases hlen : l.size < 2
  · have HN := Aside0.mk (show nums_Number.f l 0 2 = some (0, 0, 2) by unfold nums_Number.f numAt; rw [if_pos (by omega), if_neg (by omega), if_pos (by omega)])
    go_enter Try.func15, Try.ntmps15
    go_wp2_with (go_at_call 17; refine (nums_Number.calls l 0 2 0 0 2 _ HN.out).mono ?_; rintro e w1 ⟨rfl, hb1⟩; have HB1 := Aside0.mk hb1; have G1 := Aside0.mk (blk_below (blk_alloc HB.out _) hb1); have P1 := Aside0.mk (blk_below (blk_new w _) hb1); clear hb1; have c0 := (blk_cell G1.out 0).trans rfl; have p0 := (blk_cell P1.out 0).trans rfl; have p1 := (blk_cell P1.out 1).trans rfl; have q0 := blk_frozen P1.out 0; have q1 := blk_frozen P1.out 1)
    have hp2 : ((w1.setCell ⟨w.heap.size, 0, none⟩ (.string ⟨#[]⟩)).setCell ⟨w.heap.size, 1, none⟩ (.int .i64 0)).heap[w.heap.size]? = some (.cells #[.string ⟨#[]⟩, .int .i64 0] 37 (0, 0)) := blk_put (blk_put P1.out 0 _ rfl) 1 _ rfl
    refine bodyPost_ret (results_cell_tmp2 rfl _ _ w.heap.size 37 _ (0, 0) _ rfl hp2 Try.underlying37 rfl (by kernel_rfl)) rfl ?_
    have e : stepF l sk false = ((ByteArray.empty, 0), false, false, l, sk, false) := by unfold stepF; rw [if_neg (by simp), if_pos hlen]
    rw [e]
    refine ⟨rfl, ?_, ?_⟩
    · exact blk_far (blk_far G1.out (by show g ≠ w.heap.size; omega) _) (by show g ≠ w.heap.size; omega) _
    · exact gr_set (gr_set (gr_below HB1.out g) _ (Or.inl (Nat.le_refl _)) _) _ (Or.inl (Nat.le_refl _)) _
  have h2 : 2 ≤ l.size := by omega
  have hnn := num2 h2
  have hst : stepF l sk false = (if 256 * bt l 0 + bt l 1 < 1 ∨ 256 * bt l 0 + bt l 1 > 512 then ((ByteArray.empty, 8), true, true, l.extract 2 l.size, 256 * bt l 0 + bt l 1, true) else if (l.size : Int) - 2 < 256 * bt l 0 + bt l 1 then ((ByteArray.empty, 0), false, false, l, sk, false) else ((l.extract 2 (2 + (256 * bt l 0 + bt l 1)).toNat, 0), true, true, l.extract (2 + (256 * bt l 0 + bt l 1)).toNat l.size, sk, false)) := by
    unfold stepF
    rw [if_neg (by simp), if_neg hlen]
  have hn0 : 0 ≤ 256 * bt l 0 + bt l 1 := by omega
  have hn1 : 256 * bt l 0 + bt l 1 < 65536 := by omega
  generalize 256 * bt l 0 + bt l 1 = n at hnn hst hn0 hn1
  have HST := Aside0.mk hst
  have HN := Aside0.mk (show nums_Number.f l 0 2 = some (n, 2, 0) by unfold nums_Number.f; rw [if_pos (by omega), hnn])
  clear hst hnn hbt hbt1
  have w1 : IntKind.i64.wrap n = n := IntWalk.i64_in _ ⟨by omega, by omega⟩
  have w2 : wrap64 n = n := by unfold wrap64; omega
  have l2 : (2 : Int) ≤ (l.size : Int) := by omega
  by_cases hbad : n < 1 ∨ n > 512
  · rw [HST.out, if_pos hbad]
    by_cases hbad1 : n < 1
    · have d1 : decide (n < 1) = true := decide_eq_true hbad1
      go_enter Try.func15, Try.ntmps15
      go_wp2_with (go_at_call 17; refine (nums_Number.calls l 0 2 n 2 0 _ HN.out).mono ?_; rintro e w1 ⟨rfl, hb1⟩; have HB1 := Aside0.mk hb1; have G1 := Aside0.mk (blk_below (blk_alloc HB.out _) hb1); have P1 := Aside0.mk (blk_below (blk_new w _) hb1); clear hb1; have c0 := (blk_cell G1.out 0).trans rfl; have c1 := (blk_cell G1.out 1).trans rfl; have c2 := (blk_cell G1.out 2).trans rfl; have g0 := blk_frozen G1.out 0; have g1 := blk_frozen G1.out 1; have g2 := blk_frozen G1.out 2; have p0 := (blk_cell P1.out 0).trans rfl; have p1 := (blk_cell P1.out 1).trans rfl; have q0 := blk_frozen P1.out 0; have q1 := blk_frozen P1.out 1)
      have hp2 : (((((w1.setCell ⟨g, 0, none⟩ (.string (l.extract 2 l.size))).setCell ⟨g, 1, none⟩ (.int .i64 n)).setCell ⟨g, 2, none⟩ (.func (.func 18) #[] #[])).setCell ⟨w.heap.size, 0, none⟩ (.string ⟨#[]⟩)).setCell ⟨w.heap.size, 1, none⟩ (.int .i64 8)).heap[w.heap.size]? = some (.cells #[.string ⟨#[]⟩, .int .i64 8] 37 (0, 0)) := blk_put (blk_put (blk_far (blk_far (blk_far P1.out (by show w.heap.size ≠ g; omega) _) (by show w.heap.size ≠ g; omega) _) (by show w.heap.size ≠ g; omega) _) 0 _ rfl) 1 _ rfl
      refine bodyPost_ret (results_cell_tmp2 rfl _ _ w.heap.size 37 _ (0, 0) _ rfl hp2 Try.underlying37 rfl (by kernel_rfl)) rfl ?_
      refine ⟨rfl, blk_far (blk_far (blk_put (blk_put (blk_put G1.out 0 _ rfl) 1 _ rfl) 2 _ rfl) (by show g ≠ w.heap.size; omega) _) (by show g ≠ w.heap.size; omega) _, gr_set (gr_set (gr_set (gr_set (gr_set (gr_below HB1.out g) _ (Or.inr rfl) _) _ (Or.inr rfl) _) _ (Or.inr rfl) _) _ (Or.inl (Nat.le_refl _)) _) _ (Or.inl (Nat.le_refl _)) _⟩
    · have d1 : decide (n < 1) = false := decide_eq_false hbad1
      have d2 : decide (n > 512) = true := decide_eq_true (by omega)
      have d2' : decide (512 < n) = true := d2
      go_enter Try.func15, Try.ntmps15
      go_wp2_with (go_at_call 17; refine (nums_Number.calls l 0 2 n 2 0 _ HN.out).mono ?_; rintro e w1 ⟨rfl, hb1⟩; have HB1 := Aside0.mk hb1; have G1 := Aside0.mk (blk_below (blk_alloc HB.out _) hb1); have P1 := Aside0.mk (blk_below (blk_new w _) hb1); clear hb1; have c0 := (blk_cell G1.out 0).trans rfl; have c1 := (blk_cell G1.out 1).trans rfl; have c2 := (blk_cell G1.out 2).trans rfl; have g0 := blk_frozen G1.out 0; have g1 := blk_frozen G1.out 1; have g2 := blk_frozen G1.out 2; have p0 := (blk_cell P1.out 0).trans rfl; have p1 := (blk_cell P1.out 1).trans rfl; have q0 := blk_frozen P1.out 0; have q1 := blk_frozen P1.out 1)
      have hp2 : (((((w1.setCell ⟨g, 0, none⟩ (.string (l.extract 2 l.size))).setCell ⟨g, 1, none⟩ (.int .i64 n)).setCell ⟨g, 2, none⟩ (.func (.func 18) #[] #[])).setCell ⟨w.heap.size, 0, none⟩ (.string ⟨#[]⟩)).setCell ⟨w.heap.size, 1, none⟩ (.int .i64 8)).heap[w.heap.size]? = some (.cells #[.string ⟨#[]⟩, .int .i64 8] 37 (0, 0)) := blk_put (blk_put (blk_far (blk_far (blk_far P1.out (by show w.heap.size ≠ g; omega) _) (by show w.heap.size ≠ g; omega) _) (by show w.heap.size ≠ g; omega) _) 0 _ rfl) 1 _ rfl
      refine bodyPost_ret (results_cell_tmp2 rfl _ _ w.heap.size 37 _ (0, 0) _ rfl hp2 Try.underlying37 rfl (by kernel_rfl)) rfl ?_
      refine ⟨rfl, blk_far (blk_far (blk_put (blk_put (blk_put G1.out 0 _ rfl) 1 _ rfl) 2 _ rfl) (by show g ≠ w.heap.size; omega) _) (by show g ≠ w.heap.size; omega) _, gr_set (gr_set (gr_set (gr_set (gr_set (gr_below HB1.out g) _ (Or.inr rfl) _) _ (Or.inr rfl) _) _ (Or.inr rfl) _) _ (Or.inl (Nat.le_refl _)) _) _ (Or.inl (Nat.le_refl _)) _⟩
  rw [HST.out, if_neg hbad]
  have d1 : decide (n < 1) = false := decide_eq_false (by omega)
  have d2 : decide (n > 512) = false := decide_eq_false (by omega)
  have d2' : decide (512 < n) = false := d2
  have w3 : IntKind.i64.wrap ((l.size : Int) - 2) = (l.size : Int) - 2 := IntWalk.i64_in _ ⟨by omega, by omega⟩
  have w4 : wrap64 ((l.size : Int) - 2) = (l.size : Int) - 2 := by unfold wrap64; omega
  by_cases hsh : (l.size : Int) - 2 < n
  · rw [if_pos hsh]
    have d3 : decide ((l.size : Int) - 2 < n) = true := decide_eq_true hsh
    go_enter Try.func15, Try.ntmps15
    go_wp2_with (go_at_call 17; refine (nums_Number.calls l 0 2 n 2 0 _ HN.out).mono ?_; rintro e w1 ⟨rfl, hb1⟩; have HB1 := Aside0.mk hb1; have G1 := Aside0.mk (blk_below (blk_alloc HB.out _) hb1); have P1 := Aside0.mk (blk_below (blk_new w _) hb1); clear hb1; have c0 := (blk_cell G1.out 0).trans rfl; have c1 := (blk_cell G1.out 1).trans rfl; have c2 := (blk_cell G1.out 2).trans rfl; have g0 := blk_frozen G1.out 0; have g1 := blk_frozen G1.out 1; have g2 := blk_frozen G1.out 2; have p0 := (blk_cell P1.out 0).trans rfl; have p1 := (blk_cell P1.out 1).trans rfl; have q0 := blk_frozen P1.out 0; have q1 := blk_frozen P1.out 1)
    have hp2 : ((w1.setCell ⟨w.heap.size, 0, none⟩ (.string ⟨#[]⟩)).setCell ⟨w.heap.size, 1, none⟩ (.int .i64 0)).heap[w.heap.size]? = some (.cells #[.string ⟨#[]⟩, .int .i64 0] 37 (0, 0)) := blk_put (blk_put P1.out 0 _ rfl) 1 _ rfl
    refine bodyPost_ret (results_cell_tmp2 rfl _ _ w.heap.size 37 _ (0, 0) _ rfl hp2 Try.underlying37 rfl (by kernel_rfl)) rfl ?_
    exact ⟨rfl, blk_far (blk_far G1.out (by show g ≠ w.heap.size; omega) _) (by show g ≠ w.heap.size; omega) _, gr_set (gr_set (gr_below HB1.out g) _ (Or.inl (Nat.le_refl _)) _) _ (Or.inl (Nat.le_refl _)) _⟩
  rw [if_neg hsh]
  have d3 : decide ((l.size : Int) - 2 < n) = false := decide_eq_false hsh
  have w5 : IntKind.i64.wrap (2 + n) = 2 + n := IntWalk.i64_in _ ⟨by omega, by omega⟩
  have w6 : wrap64 (2 + n) = 2 + n := by unfold wrap64; omega
  have s1 : (2 : Int) ≤ 2 + n := by omega
  have s2 : 2 + n ≤ (l.size : Int) := by omega
  have s3 : (0 : Int) ≤ 2 + n := by omega
  go_enter Try.func15, Try.ntmps15
  go_wp2_with (go_at_call 17; refine (nums_Number.calls l 0 2 n 2 0 _ HN.out).mono ?_; rintro e w1 ⟨rfl, hb1⟩; have HB1 := Aside0.mk hb1; have G1 := Aside0.mk (blk_below (blk_alloc HB.out _) hb1); have P1 := Aside0.mk (blk_below (blk_new w _) hb1); clear hb1; have c0 := (blk_cell G1.out 0).trans rfl; have c1 := (blk_cell G1.out 1).trans rfl; have c2 := (blk_cell G1.out 2).trans rfl; have g0 := blk_frozen G1.out 0; have g1 := blk_frozen G1.out 1; have g2 := blk_frozen G1.out 2; have p0 := (blk_cell P1.out 0).trans rfl; have p1 := (blk_cell P1.out 1).trans rfl; have q0 := blk_frozen P1.out 0; have q1 := blk_frozen P1.out 1)
  have hp2 : (((w1.setCell ⟨g, 0, none⟩ (.string (l.extract (2 + n).toNat l.size))).setCell ⟨w.heap.size, 0, none⟩ (.string (l.extract 2 (2 + n).toNat))).setCell ⟨w.heap.size, 1, none⟩ (.int .i64 0)).heap[w.heap.size]? = some (.cells #[.string (l.extract 2 (2 + n).toNat), .int .i64 0] 37 (0, 0)) := blk_put (blk_put (blk_far P1.out (by show w.heap.size ≠ g; omega) _) 0 _ rfl) 1 _ rfl
  refine bodyPost_ret (results_cell_tmp2 rfl _ _ w.heap.size 37 _ (0, 0) _ rfl hp2 Try.underlying37 rfl (by kernel_rfl)) rfl ?_
  exact ⟨rfl, blk_far (blk_far (blk_put G1.out 0 _ rfl) (by show g ≠ w.heap.size; omega) _) (by show g ≠ w.heap.size; omega) _, gr_set (gr_set (gr_set (gr_below HB1.out g) _ (Or.inr rfl) _) _ (Or.inl (Nat.le_refl _)) _) _ (Or.inl (Nat.le_refl _)) _⟩

end Go.Proofs.Yteljllpkjhkanaa.Q
