-- Laid by wip/tools/hprint.py, a program of this repo, over the kit's print; not a text of print.sh.
import Derived.Test.YtmnikjhnomphmaaQ0
import Derived.Test.YtmnikjhnomphmaaQ2
namespace Go.Proofs.Ytmnikjhnomphmaa.Q
open Go.RowKit Go.Proofs.Ytmnikjhnomphmaa.Zip Go.Proofs.YtmnikjhnomphmaaW.PrintWords Go.Proofs.YtmnikjhnomphmaaW.PrintLast Go.Proofs.YtmnikjhnomphmaaW.PrintMore
attribute [local go_sem] max2_int min2_int max_two min_two max_three min_three max_four min_four   -- for this text's walks alone
set_option linter.unusedVariables false
set_option linter.unusedSimpArgs false

/-! ### robin_New: given by hand -/
def zeroS : S84 := ⟨false, ⟨#[]⟩, 0, 0⟩
def robin_New.f : Option Int := some 0
theorem robin_New.calls_no (sd bi : Int) (w : World) (h : bi < 1 ∨ 8 < bi) : Calls Try.prog 29 #[.int .u64 sd, .int .i64 bi] w fun e w' => e = .returned (.tuple #[.pointer none, .int .i64 1]) ∧ w' = w := by
  by_cases h1 : bi < 1
  · have d1 : decide (bi < 1) = true := decide_eq_true h1
    go_enter Try.func29, Try.ntmps29
    go_wp2
    go_ret2
    exact ⟨rfl, rfl⟩
  · have d1 : decide (bi < 1) = false := decide_eq_false h1
    have d2 : decide (8 < bi) = true := decide_eq_true (by omega)
    go_enter Try.func29, Try.ntmps29
    go_wp2
    go_ret2
    exact ⟨rfl, rfl⟩
theorem blk_at2 {X : World} {n : Nat} (h : X.heap.size = n) (o : Obj) : (X.alloc o).heap[n]? = some o := by subst h; exact blk_new X o
theorem made_slots (n : Nat) : madeCells #[.bool false, .string ⟨#[]⟩, .int .i64 0, .int .i64 0] (n * 4) = (cellsOf (List.replicate n zeroS)).toArray := by
  apply Array.ext
  · rw [size_madeCells]; simp only [List.size_toArray]; rw [cellsOf_len, List.length_replicate]; omega
  · intro i h1 h2
    rw [size_madeCells] at h1
    have e := cellsOf_at (List.replicate n zeroS) (i / 4) (i % 4) zeroS (by rw [List.getElem?_replicate, if_pos (by omega)]) (Nat.mod_lt _ (by omega))
    rw [show 4 * (i / 4) + i % 4 = i by omega] at e
    have e2 : (cellsOf (List.replicate n zeroS)).toArray[i]? = (slotV zeroS)[i % 4]? := by rw [List.getElem?_toArray]; exact e
    rw [Array.getElem?_eq_getElem h2] at e2
    have hm : i % 4 < 4 := Nat.mod_lt _ (by omega)
    have e3 : (slotV zeroS)[i % 4]? = some (madeCells #[.bool false, .string ⟨#[]⟩, .int .i64 0, .int .i64 0] (n * 4))[i] := by
      simp only [madeCells, Array.getElem_map, Array.getElem_range]
      show (slotV zeroS)[i % 4]? = some ((#[.bool false, .string ⟨#[]⟩, .int .i64 0, .int .i64 0] : Array Value)[i % 4]!)
      generalize i % 4 = q at hm
      match q, hm with
      | 0, _ => rfl
      | 1, _ => rfl
      | 2, _ => rfl
      | 3, _ => rfl
    rw [e3] at e2
    exact (Option.some.inj e2).symm
set_option maxRecDepth 100000 in
set_option maxHeartbeats 1000000 in
theorem robin_New.calls (sd : Int) (b : Nat) (w : World) (h0 : 1 ≤ b) (h1 : b ≤ 8) : Calls Try.prog 29 #[.int .u64 sd, .int .i64 (b : Int)] w fun e w' => e = .returned (.tuple #[.pointer (some ⟨w.heap.size + 1, 0, none⟩), .int .i64 0]) ∧ Tab (w.heap.size + 1) w.heap.size sd (b : Int) (List.replicate (2 ^ b) zeroS) 0 w' ∧ Below w.heap.size w w' := by
  have d1 : decide ((b : Int) < 1) = false := decide_eq_false (by omega)
  have d2 : decide (8 < (b : Int)) = false := decide_eq_false (by omega)
  obtain ⟨n, hn⟩ : ∃ n, 2 ^ b = n := ⟨_, rfl⟩
  have hp : n ≤ 256 := by
    have := Nat.pow_le_pow_right (show 0 < 2 by omega) h1
    omega
  have hw2 : wrap64 ((2 : Int) ^ b) = (n : Int) := by
    have e : ((2 : Int) ^ b) = ((2 ^ b : Nat) : Int) := by simp
    rw [e, hn]; unfold wrap64; omega
  have hmk : ∀ W : World, (Instr.makeSlice 71 (.int .i64 (n : Int)) (.int .i64 (n : Int))).run Try.prog W = .ok (.slice (some ⟨W.heap.size, 0, none⟩) n n) (W.alloc (.cells (cellsOf (List.replicate n zeroS)).toArray 84)) := by
    intro W
    have inf : (Try.prog.info? 84).map (fun i => (i.zero, i.size, i.bytes)) = some (some (.agg #[.bool false, .string ⟨#[]⟩, .int .i64 0, .int .i64 0]), 4, 40) := by kernel_rfl
    obtain ⟨i0, hi, hzz⟩ := Option.map_eq_some_iff.1 inf
    simp only [Prod.mk.injEq] at hzz
    obtain ⟨hz0, hz1, hz2⟩ := hzz
    have hr := run_make (P := Try.prog) W 71 84 i0 _ Try.underlying71 hi hz0 .i64 .i64 (n : Int) (n : Int) (by omega) (by omega) (by rw [hz2]; omega) (by omega)
    rw [hz1, Int.toNat_natCast] at hr
    rw [hr, ← made_slots]
    rfl
  rw [hn]
  clear hn
  go_enter Try.func29, Try.ntmps29
  go_wp2
  go_ret2
  exact ⟨rfl, ⟨by rw [List.length_replicate]; exact blk_at2 (by simp) _, blk_alloc (blk_new w _) _, by omega⟩, ((Below.refl w.heap.size w).alloc (Nat.le_refl _) _).alloc (by simp) _⟩

end Go.Proofs.Ytmnikjhnomphmaa.Q
