-- Laid by wip/tools/hprint.py, a program of this repo, over the kit's print; not a text of print.sh.
import Derived.Test.YtjhipnhnbnnodaaQ0
import Derived.Test.YtjhipnhnbnnodaaQ3
import Derived.Test.YtjhipnhnbnnodaaQ15
import Derived.Test.YtjhipnhnbnnodaaQ16
namespace Go.Proofs.Ytjhipnhnbnnodaa.Q
open Go.RowKit Go.Proofs.Ytjhipnhnbnnodaa.Zip Go.Proofs.YtjhipnhnbnnodaaW.PrintWords Go.Proofs.YtjhipnhnbnnodaaW.PrintLast Go.Proofs.YtjhipnhnbnnodaaW.PrintMore
attribute [local go_sem] max2_int min2_int max_two min_two max_three min_three max_four min_four   -- for this text's walks alone
set_option linter.unusedVariables false
set_option linter.unusedSimpArgs false

/-! ### policy_Decode: given by hand -/
def fld (s : ByteArray) (a n : Nat) : Int := numL ((s.data.toList.drop a).take n)
theorem fld_bd (s : ByteArray) (a n : Nat) (hn : n ≤ 4) : 0 ≤ fld s a n ∧ fld s a n ≤ 4294967295 := by
  have := numL_small (l := (s.data.toList.drop a).take n) (n := 4) (by rw [List.length_take]; omega) (by omega)
  have p : (256 : Int) ^ 4 = 4294967296 := rfl
  rw [p] at this
  unfold fld; omega
theorem number_at (s : ByteArray) (a n : Nat) (hs : s.size ≤ 1000000) (h : a + n ≤ s.size) (hn : n ≤ 8) : nums_Number.f s (a : Int) (n : Int) = some (fld s a n, (a : Int) + (n : Int), 0) := by
  unfold nums_Number.f numAt fld
  rw [if_pos (by omega), if_neg (by omega), if_neg (by omega)]
  simp
/-- The four fields, as far as they are read. -/
def decC (s : ByteArray) (k : Nat) : Array Value := #[.int .i64 (if 0 < k then fld s 0 1 else 0), .int .i64 (if 1 < k then fld s 1 4 else 0), .int .i64 (if 2 < k then fld s 5 4 else 0), .int .i64 (if 3 < k then fld s 9 1 else 0)]
def decAt (k : Nat) : Int := if k = 0 then 0 else if k = 1 then 1 else if k = 2 then 5 else if k = 3 then 9 else 10
def policy_Decode.f (a0 : ByteArray) : Option (Int × Int × Int × Int × Int) := if a0.size ≤ 1000000 then some (if a0.size < 10 then (0, 0, 0, 0, 2) else if a0.size = 10 ∧ polOk (fld a0 0 1) (fld a0 1 4) (fld a0 5 4) (fld a0 9 1) = true then (fld a0 0 1, fld a0 1 4, fld a0 5 4, fld a0 9 1, 0) else (0, 0, 0, 0, 3)) else none
set_option maxHeartbeats 2000000 in
theorem decode_cut (s : ByteArray) (w : World) (h : (s.size : Int) < 10) : Calls Try.prog 19 #[.string s] w fun e w' => e = .returned (.tuple #[.agg #[.int .i64 0, .int .i64 0, .int .i64 0, .int .i64 0], .int .i64 2]) ∧ Below w.heap.size w w' := by
  go_enter Try.func19, Try.ntmps19
  go_wp2
  refine bodyPost_ret (results_ct rfl _ _ w.heap.size 23 #[.int .i64 0, .int .i64 0, .int .i64 0, .int .i64 0] (0, 0) _ rfl ?_ Try.underlying23 rfl (by kernel_rfl)) rfl ⟨rfl, ?_⟩
  · exact blk_new _ _
  · exact (Below.refl _ _).alloc (Nat.le_refl _) _
theorem blk_put4 {w : World} {g : Nat} {t : TypeId} {a0 a1 a2 a3 v0 v1 v2 v3 : Value} (h : w.heap[g]? = some (.cells #[a0, a1, a2, a3] t (0, 0))) : ((((w.setCell ⟨g, 0, none⟩ v0).setCell ⟨g, 1, none⟩ v1).setCell ⟨g, 2, none⟩ v2).setCell ⟨g, 3, none⟩ v3).heap[g]? = some (.cells #[v0, v1, v2, v3] t (0, 0)) :=
  blk_put (blk_put (blk_put (blk_put h 0 v0 (cs' := #[v0, a1, a2, a3]) rfl) 1 v1 (cs' := #[v0, v1, a2, a3]) rfl) 2 v2 (cs' := #[v0, v1, v2, a3]) rfl) 3 v3 rfl
theorem below_set4 {w W : World} {g : Nat} {v0 v1 v2 v3 : Value} (h : Below w.heap.size w W) (hg : w.heap.size ≤ g) : Below w.heap.size w ((((W.setCell ⟨g, 0, none⟩ v0).setCell ⟨g, 1, none⟩ v1).setCell ⟨g, 2, none⟩ v2).setCell ⟨g, 3, none⟩ v3) :=
  below_set (below_set (below_set (below_set h hg) hg) hg) hg
def decRow (g : Nat) : Array Value := #[.pointer (some ⟨g, 0, none⟩), .int .i64 1, .pointer (some ⟨g, 1, none⟩), .int .i64 4, .pointer (some ⟨g, 2, none⟩), .int .i64 4, .pointer (some ⟨g, 3, none⟩), .int .i64 1]
def decR (s : ByteArray) : Int × Int × Int × Int × Int := if s.size = 10 ∧ polOk (fld s 0 1) (fld s 1 4) (fld s 5 4) (fld s 9 1) = true then (fld s 0 1, fld s 1 4, fld s 5 4, fld s 9 1, 0) else (0, 0, 0, 0, 3)
theorem aside_cell {w : World} {g : Nat} {t : TypeId} {cs : Array Value} (h : Aside0 (w.heap[g]? = some (.cells cs t (0, 0)))) (i : Nat) (v : Value) (e : cs[i]? = some v) : w.cell? ⟨g, i, none⟩ = some v := (blk_cell h.out i).trans e
theorem aside_froz {w : World} {g : Nat} {t : TypeId} {cs : Array Value} (h : Aside0 (w.heap[g]? = some (.cells cs t (0, 0)))) (i : Nat) : w.frozen? ⟨g, i, none⟩ = false := blk_frozen h.out i
theorem dec_step {w wr w1 : World} {s : ByteArray} {k : Nat} {v : Int} {T E : TypeId} {o : Obj} (BB : Aside0 (wr.heap[w.heap.size]? = some (.cells #[.int .i64 0, .int .i64 0, .int .i64 0, .int .i64 0] T (0, 0)))) (BP : Aside0 (wr.heap[w.heap.size + 1]? = some (.cells (decC s k) T (0, 0)))) (BR : Aside0 (wr.heap[w.heap.size + 2]? = some (.cells (decRow (w.heap.size + 1)) E (0, 0)))) (HB : Aside0 (Below w.heap.size w wr)) (hb : Below (wr.alloc o).heap.size (wr.alloc o) w1) (hs : (decC s k).setIfInBounds k (.int .i64 v) = decC s (k + 1)) :
    Aside0 ((w1.setCell ⟨w.heap.size + 1, k, none⟩ (.int .i64 v)).heap[w.heap.size]? = some (.cells #[.int .i64 0, .int .i64 0, .int .i64 0, .int .i64 0] T (0, 0))) ∧ Aside0 ((w1.setCell ⟨w.heap.size + 1, k, none⟩ (.int .i64 v)).heap[w.heap.size + 1]? = some (.cells (decC s (k + 1)) T (0, 0))) ∧ Aside0 ((w1.setCell ⟨w.heap.size + 1, k, none⟩ (.int .i64 v)).heap[w.heap.size + 2]? = some (.cells (decRow (w.heap.size + 1)) E (0, 0))) ∧ Aside0 (Below w.heap.size w (w1.setCell ⟨w.heap.size + 1, k, none⟩ (.int .i64 v))) :=
  ⟨⟨blk_far (blk_below (blk_alloc BB.out _) hb) (by simp) _⟩, ⟨blk_put (blk_below (blk_alloc BP.out _) hb) k _ hs⟩, ⟨blk_far (blk_below (blk_alloc BR.out _) hb) (by simp) _⟩, ⟨below_set (below_step (below_alloc HB.out _) hb) (by omega)⟩⟩
set_option maxHeartbeats 8000000 in
theorem decode_long (s : ByteArray) (w : World) (h0 : ¬ (s.size : Int) < 10) (h1 : s.size ≤ 1000000) : Calls Try.prog 19 #[.string s] w fun e w' => e = .returned (.tuple #[.agg #[.int .i64 (decR s).1, .int .i64 (decR s).2.1, .int .i64 (decR s).2.2.1, .int .i64 (decR s).2.2.2.1], .int .i64 (decR s).2.2.2.2]) ∧ Below w.heap.size w w' := by
  go_enter Try.func19, Try.ntmps19
  go_wp2
  go_loopw [5, 25] (fun a i wr => ∃ k : Nat, k ≤ 4 ∧ i = .int .i64 k ∧ a = .int .i64 (decAt k) ∧ Aside0 (wr.heap[w.heap.size]? = some (.cells #[.int .i64 0, .int .i64 0, .int .i64 0, .int .i64 0] 23 (0, 0))) ∧ Aside0 (wr.heap[w.heap.size + 1]? = some (.cells (decC s k) 23 (0, 0))) ∧ Aside0 (wr.heap[w.heap.size + 2]? = some (.cells (decRow (w.heap.size + 1)) 46 (0, 0))) ∧ Aside0 (Below w.heap.size w wr)) (fun _ i _ => 4 - (intOf i).toNat)
  case atStart =>
    have e0 : decC s 0 = #[.int .i64 0, .int .i64 0, .int .i64 0, .int .i64 0] := rfl
    have n1 := blk_new (w.alloc (.cells #[.int .i64 0, .int .i64 0, .int .i64 0, .int .i64 0] 23)) (.cells #[.int .i64 0, .int .i64 0, .int .i64 0, .int .i64 0] 23)
    have n2 := blk_new ((w.alloc (.cells #[.int .i64 0, .int .i64 0, .int .i64 0, .int .i64 0] 23)).alloc (.cells #[.int .i64 0, .int .i64 0, .int .i64 0, .int .i64 0] 23)) (.cells (decRow (w.heap.size + 1)) 46)
    rw [show (w.alloc (.cells #[.int .i64 0, .int .i64 0, .int .i64 0, .int .i64 0] 23)).heap.size = w.heap.size + 1 by simp] at n1
    rw [show ((w.alloc (.cells #[.int .i64 0, .int .i64 0, .int .i64 0, .int .i64 0] 23)).alloc (.cells #[.int .i64 0, .int .i64 0, .int .i64 0, .int .i64 0] 23)).heap.size = w.heap.size + 2 by simp] at n2
    exact ⟨0, by omega, rfl, rfl, ⟨blk_alloc (blk_alloc (blk_new _ _) _) _⟩, ⟨by rw [e0]; exact blk_alloc n1 _⟩, ⟨n2⟩, ⟨((Below.refl _ _).alloc (Nat.le_refl _) _).alloc (by simp) _ |>.alloc (by simp; omega) _⟩⟩
  case round =>
    obtain ⟨k, hk, rfl, rfl, BB, BP, BR, HB⟩ := hrel
    have hk5 : k = 0 ∨ k = 1 ∨ k = 2 ∨ k = 3 ∨ k = 4 := by omega
    clear hk
    rcases hk5 with rfl | rfl | rfl | rfl | rfl
    · have c0 := aside_cell BP 0 (.int .i64 0) rfl
      have f0 := aside_froz BP 0
      have r0 := aside_cell BR 0 (.pointer (some ⟨w.heap.size + 1, 0, none⟩)) rfl
      have r1 := aside_cell BR 1 (.int .i64 1) rfl
      have hn := Aside0.mk (number_at s 0 1 (by omega) (by omega) (by omega))
      obtain ⟨v0, v1⟩ := fld_bd s 0 1 (by omega)
      rw [show decAt 0 = 0 from rfl]
      go_wp2_with (first | (go_at_call 25; refine (nums_Number.calls _ _ _ _ _ _ _ hn.out).mono ?_; rintro e w1 ⟨rfl, hb⟩; have q0 := cell_keep hb (p := ⟨wr.heap.size, 0, none⟩) (v := .pointer (some ⟨w.heap.size + 1, 0, none⟩)) (by go_simp); have q1 := aside_cell ⟨blk_below (blk_alloc BP.out _) hb⟩ 0 (.int .i64 0) rfl; have q2 := aside_froz ⟨blk_below (blk_alloc BP.out _) hb⟩ 0))
      go_roundw
      case rel => exact ⟨1, by omega, by go_num, by first | rfl | (simp [decAt]), dec_step BB BP BR HB hb (by simp [decC])⟩
      case measure => simp [intOf]
    · have c0 := aside_cell BP 1 (.int .i64 0) rfl
      have f0 := aside_froz BP 1
      have r0 := aside_cell BR 2 (.pointer (some ⟨w.heap.size + 1, 1, none⟩)) rfl
      have r1 := aside_cell BR 3 (.int .i64 4) rfl
      have hn := Aside0.mk (number_at s 1 4 (by omega) (by omega) (by omega))
      obtain ⟨v0, v1⟩ := fld_bd s 1 4 (by omega)
      rw [show decAt 1 = 1 from rfl]
      go_wp2_with (first | (go_at_call 25; refine (nums_Number.calls _ _ _ _ _ _ _ hn.out).mono ?_; rintro e w1 ⟨rfl, hb⟩; have q0 := cell_keep hb (p := ⟨wr.heap.size, 0, none⟩) (v := .pointer (some ⟨w.heap.size + 1, 1, none⟩)) (by go_simp); have q1 := aside_cell ⟨blk_below (blk_alloc BP.out _) hb⟩ 1 (.int .i64 0) rfl; have q2 := aside_froz ⟨blk_below (blk_alloc BP.out _) hb⟩ 1))
      go_roundw
      case rel => exact ⟨2, by omega, by go_num, by first | rfl | (simp [decAt]), dec_step BB BP BR HB hb (by simp [decC])⟩
      case measure => simp [intOf]
    · have c0 := aside_cell BP 2 (.int .i64 0) rfl
      have f0 := aside_froz BP 2
      have r0 := aside_cell BR 4 (.pointer (some ⟨w.heap.size + 1, 2, none⟩)) rfl
      have r1 := aside_cell BR 5 (.int .i64 4) rfl
      have hn := Aside0.mk (number_at s 5 4 (by omega) (by omega) (by omega))
      obtain ⟨v0, v1⟩ := fld_bd s 5 4 (by omega)
      rw [show decAt 2 = 5 from rfl]
      go_wp2_with (first | (go_at_call 25; refine (nums_Number.calls _ _ _ _ _ _ _ hn.out).mono ?_; rintro e w1 ⟨rfl, hb⟩; have q0 := cell_keep hb (p := ⟨wr.heap.size, 0, none⟩) (v := .pointer (some ⟨w.heap.size + 1, 2, none⟩)) (by go_simp); have q1 := aside_cell ⟨blk_below (blk_alloc BP.out _) hb⟩ 2 (.int .i64 0) rfl; have q2 := aside_froz ⟨blk_below (blk_alloc BP.out _) hb⟩ 2))
      go_roundw
      case rel => exact ⟨3, by omega, by go_num, by first | rfl | (simp [decAt]), dec_step BB BP BR HB hb (by simp [decC])⟩
      case measure => simp [intOf]
    · have c0 := aside_cell BP 3 (.int .i64 0) rfl
      have f0 := aside_froz BP 3
      have r0 := aside_cell BR 6 (.pointer (some ⟨w.heap.size + 1, 3, none⟩)) rfl
      have r1 := aside_cell BR 7 (.int .i64 1) rfl
      have hn := Aside0.mk (number_at s 9 1 (by omega) (by omega) (by omega))
      obtain ⟨v0, v1⟩ := fld_bd s 9 1 (by omega)
      rw [show decAt 3 = 9 from rfl]
      go_wp2_with (first | (go_at_call 25; refine (nums_Number.calls _ _ _ _ _ _ _ hn.out).mono ?_; rintro e w1 ⟨rfl, hb⟩; have q0 := cell_keep hb (p := ⟨wr.heap.size, 0, none⟩) (v := .pointer (some ⟨w.heap.size + 1, 3, none⟩)) (by go_simp); have q1 := aside_cell ⟨blk_below (blk_alloc BP.out _) hb⟩ 3 (.int .i64 0) rfl; have q2 := aside_froz ⟨blk_below (blk_alloc BP.out _) hb⟩ 3))
      go_roundw
      case rel => exact ⟨4, by omega, by go_num, by first | rfl | (simp [decAt]), dec_step BB BP BR HB hb (by simp [decC])⟩
      case measure => simp [intOf]
    · have c0 := aside_cell BP 0 (.int .i64 (fld s 0 1)) rfl
      have c1 := aside_cell BP 1 (.int .i64 (fld s 1 4)) rfl
      have c2 := aside_cell BP 2 (.int .i64 (fld s 5 4)) rfl
      have c3 := aside_cell BP 3 (.int .i64 (fld s 9 1)) rfl
      have b0 := aside_cell BB 0 (.int .i64 0) rfl
      have b1 := aside_cell BB 1 (.int .i64 0) rfl
      have b2 := aside_cell BB 2 (.int .i64 0) rfl
      have b3 := aside_cell BB 3 (.int .i64 0) rfl
      have g0 := aside_froz BB 0
      have g1 := aside_froz BB 1
      have g2 := aside_froz BB 2
      have g3 := aside_froz BB 3
      by_cases h10 : (10 : Int) < (s.size : Int)
      · have hR : Aside0 (decR s = (0, 0, 0, 0, 3)) := ⟨by unfold decR; rw [if_neg (by omega)]⟩
        go_wp2
        refine bodyPost_ret (results_ct rfl _ _ w.heap.size 23 _ (0, 0) _ rfl (blk_put4 BB.out) Try.underlying23 rfl (by kernel_rfl)) rfl ⟨by rw [hR.out]; rfl, ?_⟩
        exact below_set4 HB.out (Nat.le_refl _)
      · have hz : Aside0 (s.size = 10) := ⟨by omega⟩
        cases hp : polOk (fld s 0 1) (fld s 1 4) (fld s 5 4) (fld s 9 1)
        · have hR : Aside0 (decR s = (0, 0, 0, 0, 3)) := ⟨by unfold decR; rw [if_neg (by rw [hp]; simp)]⟩
          have hc : Aside0 (policy_Check.f (fld s 0 1) (fld s 1 4) (fld s 5 4) (fld s 9 1) = some 1) := ⟨by unfold policy_Check.f; rw [hp]; rfl⟩
          clear hp
          go_wp2_with (first | (go_at_call 10; refine (policy_Check.calls _ _ _ _ _ _ hc.out).mono ?_; rintro e w1 ⟨rfl, hb⟩; have BB1 := Aside0.mk (blk_below BB.out hb); have d0 := aside_cell BB1 0 (.int .i64 0) rfl; have d1 := aside_cell BB1 1 (.int .i64 0) rfl; have d2 := aside_cell BB1 2 (.int .i64 0) rfl; have d3 := aside_cell BB1 3 (.int .i64 0) rfl; have z0 := aside_froz BB1 0; have z1 := aside_froz BB1 1; have z2 := aside_froz BB1 2; have z3 := aside_froz BB1 3))
          refine bodyPost_ret (results_ct rfl _ _ w.heap.size 23 _ (0, 0) _ rfl (blk_put4 BB1.out) Try.underlying23 rfl (by kernel_rfl)) rfl ⟨by rw [hR.out]; rfl, ?_⟩
          exact below_set4 (below_step HB.out hb) (Nat.le_refl _)
        · have hR : Aside0 (decR s = (fld s 0 1, fld s 1 4, fld s 5 4, fld s 9 1, 0)) := ⟨by unfold decR; rw [if_pos ⟨hz.out, hp⟩]⟩
          have hc : Aside0 (policy_Check.f (fld s 0 1) (fld s 1 4) (fld s 5 4) (fld s 9 1) = some 0) := ⟨by unfold policy_Check.f; rw [hp]; rfl⟩
          clear hp
          go_wp2_with (first | (go_at_call 10; refine (policy_Check.calls _ _ _ _ _ _ hc.out).mono ?_; rintro e w1 ⟨rfl, hb⟩; have BP1 := Aside0.mk (blk_below BP.out hb); have p0 := aside_cell BP1 0 (.int .i64 (fld s 0 1)) rfl; have p1 := aside_cell BP1 1 (.int .i64 (fld s 1 4)) rfl; have p2 := aside_cell BP1 2 (.int .i64 (fld s 5 4)) rfl; have p3 := aside_cell BP1 3 (.int .i64 (fld s 9 1)) rfl; have BB1 := Aside0.mk (blk_below BB.out hb); have d0 := aside_cell BB1 0 (.int .i64 0) rfl; have d1 := aside_cell BB1 1 (.int .i64 0) rfl; have d2 := aside_cell BB1 2 (.int .i64 0) rfl; have d3 := aside_cell BB1 3 (.int .i64 0) rfl; have z0 := aside_froz BB1 0; have z1 := aside_froz BB1 1; have z2 := aside_froz BB1 2; have z3 := aside_froz BB1 3))
          refine bodyPost_ret (results_ct rfl _ _ w.heap.size 23 _ (0, 0) _ rfl (blk_put4 BB1.out) Try.underlying23 rfl (by kernel_rfl)) rfl ⟨by rw [hR.out]; rfl, ?_⟩
          exact below_set4 (below_step HB.out hb) (Nat.le_refl _)
theorem policy_Decode.calls (a0 : ByteArray) (r1 : Int) (r2 : Int) (r3 : Int) (r4 : Int) (r5 : Int) (w : World) (h : policy_Decode.f a0 = some (r1, r2, r3, r4, r5)) :
    Calls Try.prog 19 #[.string a0] w fun e w' => e = .returned (.tuple #[.agg #[.int .i64 r1, .int .i64 r2, .int .i64 r3, .int .i64 r4], .int .i64 r5]) ∧ Below w.heap.size w w' := by
  unfold policy_Decode.f at h
  by_cases hs : a0.size ≤ 1000000
  · rw [if_pos hs] at h
    have h1 := Option.some.inj h
    by_cases hc : a0.size < 10
    · rw [if_pos hc] at h1
      simp only [Prod.mk.injEq] at h1
      obtain ⟨rfl, rfl, rfl, rfl, rfl⟩ := h1
      exact decode_cut a0 w (by omega)
    · rw [if_neg hc] at h1
      have e : decR a0 = (r1, r2, r3, r4, r5) := h1
      have := decode_long a0 w (by omega) hs
      rw [e] at this
      exact this
  · rw [if_neg hs] at h; cases h

end Go.Proofs.Ytjhipnhnbnnodaa.Q
