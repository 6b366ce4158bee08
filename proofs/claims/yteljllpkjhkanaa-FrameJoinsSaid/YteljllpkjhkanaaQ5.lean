-- Laid by wip/tools/hprint.py, a program of this repo, over the kit's print; not a text of print.sh.
import Derived.Test.YteljllpkjhkanaaQ0
import Derived.Test.YteljllpkjhkanaaQ3
namespace Go.Proofs.Yteljllpkjhkanaa.Q
open Go.RowKit Go.Proofs.Yteljllpkjhkanaa.Zip Go.Proofs.YteljllpkjhkanaaW.PrintWords Go.Proofs.YteljllpkjhkanaaW.PrintLast Go.Proofs.YteljllpkjhkanaaW.PrintMore
attribute [local go_sem] max2_int min2_int max_two min_two max_three min_three max_four min_four   -- for this text's walks alone
set_option linter.unusedVariables false
set_option linter.unusedSimpArgs false

/-! ### frame_pass: given by hand -/
theorem blk_at' {X : World} {n : Nat} (h : X.heap.size = n) (o : Obj) : (X.alloc o).heap[n]? = some o := by subst h; exact blk_new X o
theorem gr_refl (w : World) (g : Nat) : w.grownBy w (some g) := ⟨rfl, rfl, rfl, Nat.le_refl _, fun _ _ _ => rfl⟩
theorem gr_alloc {w w1 : World} {g : Nat} (h : w.grownBy w1 (some g)) (o : Obj) : w.grownBy (w1.alloc o) (some g) := ⟨h.os, h.tape, h.output, by have := h.size; simp; omega, fun i hi hne => (Below.heap_alloc w1 o i (by have := h.size; omega)).trans (h.block i hi hne)⟩
def frame_pass.f (l : ByteArray) : Option Int := some 0
set_option maxHeartbeats 4000000 in
theorem frame_pass.calls (g : Nat) (l : ByteArray) (sk : Int) (w : World) (hb : w.heap[g]? = some (rdO l sk true)) (hs : l.size ≤ 4611686018427387904) (h0 : 0 ≤ sk) (h1 : sk ≤ 65536) :
    Calls Try.prog 18 #[.pointer (some ⟨g, 0, none⟩)] w fun e w' => e = .returned (.tuple #[.agg #[.string (stepF l sk true).1.1, .int .i64 (stepF l sk true).1.2], .bool (stepF l sk true).2.1, .bool (stepF l sk true).2.2.1]) ∧ w'.heap[g]? = some (rdO (stepF l sk true).2.2.2.1 (stepF l sk true).2.2.2.2.1 (stepF l sk true).2.2.2.2.2) ∧ w.grownBy w' (some g) := by
  have hb' : w.heap[g]? = some (.cells #[.string l, .int .i64 sk, .func (.func 18) #[] #[]] 46 (0, 0)) := hb
  have HB := Aside0.mk hb'
  have P1 := Aside0.mk (blk_new w (.cells #[.string ⟨#[]⟩, .int .i64 0] 37))
  have c0 := (blk_cell HB.out 0).trans rfl
  have c1 := (blk_cell HB.out 1).trans rfl
  have c2 := (blk_cell HB.out 2).trans rfl
  have g0 := blk_frozen HB.out 0
  have g1 := blk_frozen HB.out 1
  have g2 := blk_frozen HB.out 2
  have p0 := (blk_cell P1.out 0).trans rfl
  have p1 := (blk_cell P1.out 1).trans rfl
  have q0 := blk_frozen P1.out 0
  have q1 := blk_frozen P1.out 1
  have glt := blk_lt hb'
  have hst : stepF l sk true = ((ByteArray.empty, 0), false, !decide (sk - mn sk (l.size : Int) > 0), l.extract (mn sk (l.size : Int)).toNat l.size, sk - mn sk (l.size : Int), decide (sk - mn sk (l.size : Int) > 0)) := by unfold stepF; rw [if_pos rfl]
  have HST := Aside0.mk hst
  clear hst
  have gr0 := Aside0.mk (gr_below (Below.refl (w.alloc (.cells #[.string ⟨#[]⟩, .int .i64 0] 37)).heap.size (w.alloc (.cells #[.string ⟨#[]⟩, .int .i64 0] 37))) g)
  by_cases hm : (l.size : Int) < sk
  · have e : mn sk (l.size : Int) = (l.size : Int) := by unfold mn; rw [if_pos hm]
    rw [HST.out, e]
    clear HST e
    have m1 : decide ((l.size : Int) < sk) = true := decide_eq_true hm
    have m2 : decide (sk < (l.size : Int)) = false := decide_eq_false (by omega)
    have m3 : ¬ sk < (l.size : Int) := by omega
    have m4 : ¬ sk ≤ (l.size : Int) := by omega
    have s1 : (0 : Int) ≤ (l.size : Int) := by omega
    have s2 : (l.size : Int) ≤ (l.size : Int) := Int.le_refl _
    have d1 : decide (sk - (l.size : Int) > 0) = true := decide_eq_true (by omega)
    have d2 : decide (0 < sk - (l.size : Int)) = true := d1
    have w1 : IntKind.i64.wrap (sk - (l.size : Int)) = sk - (l.size : Int) := IntWalk.i64_in _ ⟨by omega, by omega⟩
    have w2 : wrap64 (sk - (l.size : Int)) = sk - (l.size : Int) := by unfold wrap64; omega
    go_enter Try.func18, Try.ntmps18
    go_wp2
    go_region
    go_wp2
    go_region
    all_goals go_wp2
    have hx : l.extract ((l.size : Int)).toNat l.size = ByteArray.empty := by
      rw [Int.toNat_natCast]; apply ByteArray.ext; apply Array.ext
      · simp [ByteArray.data_extract]
      · intro i h1 h2; simp [ByteArray.data_extract] at h1
    rw [hx, show decide (sk - (l.size : Int) > 0) = true from d1]
    have hp2 : ((((w.setCell ⟨g, 0, none⟩ (.string ByteArray.empty)).setCell ⟨g, 1, none⟩ (.int .i64 (sk - (l.size : Int)))).alloc (.cells #[.string ⟨#[]⟩, .int .i64 0] 37)).drew.drew).heap[w.heap.size]? = some (.cells #[.string ⟨#[]⟩, .int .i64 0] 37 (0, 0)) := blk_drew (blk_drew (blk_at' (by simp) _))
    refine bodyPost_ret (results_cell_tmp2 rfl _ _ w.heap.size 37 _ (0, 0) _ rfl hp2 Try.underlying37 rfl (by kernel_rfl)) rfl ?_
    exact ⟨rfl, blk_drew (blk_drew (blk_alloc (blk_put (blk_put HB.out 0 _ rfl) 1 _ rfl) _)), gr_drew (gr_drew (gr_alloc (gr_set (gr_set (gr_refl w g) _ (Or.inr rfl) _) _ (Or.inr rfl) _) _))⟩
  · have e : mn sk (l.size : Int) = sk := by unfold mn; rw [if_neg hm]
    rw [HST.out, e, Int.sub_self]
    clear HST e
    have m1 : decide ((l.size : Int) < sk) = false := decide_eq_false hm
    have m3 : sk ≤ (l.size : Int) := by omega
    have s1 : (0 : Int) ≤ sk := h0
    have d1 : decide ((0 : Int) > 0) = false := rfl
    have w1 : IntKind.i64.wrap (sk - sk) = 0 := by rw [Int.sub_self]; rfl
    have w2 : wrap64 (sk - sk) = 0 := by rw [Int.sub_self]; unfold wrap64; rfl
    go_enter Try.func18, Try.ntmps18
    go_wp2
    go_region
    go_wp2
    go_region
    all_goals go_wp2
    have hp2 : (((((w.setCell ⟨g, 0, none⟩ (.string (l.extract sk.toNat l.size))).setCell ⟨g, 1, none⟩ (.int .i64 0)).setCell ⟨g, 2, none⟩ (.func (.func 15) #[] #[])).alloc (.cells #[.string ⟨#[]⟩, .int .i64 0] 37)).drew.drew).heap[w.heap.size]? = some (.cells #[.string ⟨#[]⟩, .int .i64 0] 37 (0, 0)) := blk_drew (blk_drew (blk_at' (by simp) _))
    refine bodyPost_ret (results_cell_tmp2 rfl _ _ w.heap.size 37 _ (0, 0) _ rfl hp2 Try.underlying37 rfl (by kernel_rfl)) rfl ?_
    rw [d1]
    exact ⟨rfl, blk_drew (blk_drew (blk_alloc (blk_put (blk_put (blk_put HB.out 0 _ rfl) 1 _ rfl) 2 _ rfl) _)), gr_drew (gr_drew (gr_alloc (gr_set (gr_set (gr_set (gr_refl w g) _ (Or.inr rfl) _) _ (Or.inr rfl) _) _ (Or.inr rfl) _) _))⟩

end Go.Proofs.Yteljllpkjhkanaa.Q
