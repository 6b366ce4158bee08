-- Laid by wip/tools/hprint.py, a program of this repo, over the kit's print; not a text of print.sh.
import Derived.Test.YtmnikjhnomphmaaQ0
import Derived.Test.YtmnikjhnomphmaaQ2
import Derived.Test.YtmnikjhnomphmaaQ7
import Derived.Test.YtmnikjhnomphmaaQ8
import Derived.Test.YtmnikjhnomphmaaQ16
namespace Go.Proofs.Ytmnikjhnomphmaa.Q
open Go.RowKit Go.Proofs.Ytmnikjhnomphmaa.Zip Go.Proofs.YtmnikjhnomphmaaW.PrintWords Go.Proofs.YtmnikjhnomphmaaW.PrintLast Go.Proofs.YtmnikjhnomphmaaW.PrintMore
attribute [local go_sem] max2_int min2_int max_two min_two max_three min_three max_four min_four   -- for this text's walks alone
set_option linter.unusedVariables false
set_option linter.unusedSimpArgs false

/-! ### robin_Table_Put: given by hand -/
theorem cellsOf_set2 : ∀ (l : List S84) (i : Nat) (s : S84) (v : Int), l[i]? = some s → cellsOf (l.set i ⟨s.f0, s.f1, v, s.f3⟩) = (cellsOf l).set (4 * i + 2) (.int .i64 v)
  | [], _, _, _, h => by simp at h
  | x :: l, 0, s, v, h => by
    obtain rfl : x = s := by simpa using h
    rfl
  | x :: l, i + 1, s, v, h => by
    have := cellsOf_set2 l i s v (by simpa using h)
    show slotV x ++ cellsOf (l.set i _) = (slotV x ++ cellsOf l).set (4 * (i + 1) + 2) _
    rw [this]
    have e : (slotV x).length = 4 := rfl
    rw [show 4 * (i + 1) + 2 = 4 + (4 * i + 2) by omega]
    simp only [← e, List.set_append_right, Nat.le_add_right, Nat.add_sub_cancel_left]
theorem cellsOf_set3 : ∀ (l : List S84) (i : Nat) (s : S84) (v : Int), l[i]? = some s → cellsOf (l.set i ⟨s.f0, s.f1, s.f2, v⟩) = (cellsOf l).set (4 * i + 3) (.int .i64 v)
  | [], _, _, _, h => by simp at h
  | x :: l, 0, s, v, h => by
    obtain rfl : x = s := by simpa using h
    rfl
  | x :: l, i + 1, s, v, h => by
    have := cellsOf_set3 l i s v (by simpa using h)
    show slotV x ++ cellsOf (l.set i _) = (slotV x ++ cellsOf l).set (4 * (i + 1) + 3) _
    rw [this]
    have e : (slotV x).length = 4 := rfl
    rw [show 4 * (i + 1) + 3 = 4 + (4 * i + 3) by omega]
    simp only [← e, List.set_append_right, Nat.le_add_right, Nat.add_sub_cancel_left]
section
variable {g gs : Nat} {sd bi us : Int} {l : List S84} {W : World}
theorem Tab.far (h : Tab g gs sd bi l us W) {p : Addr} (h1 : g ≠ p.block) (h2 : gs ≠ p.block) (v : Value) : Tab g gs sd bi l us (W.setCell p v) := ⟨blk_far h.hd h1 v, blk_far h.sl h2 v, h.ne⟩
theorem Tab.alloc (h : Tab g gs sd bi l us W) (o : Obj) : Tab g gs sd bi l us (W.alloc o) := ⟨blk_alloc h.hd o, blk_alloc h.sl o, h.ne⟩
theorem Tab.frz (h : Tab g gs sd bi l us W) (i : Nat) : W.frozen? ⟨gs, i, none⟩ = false := blk_frozen h.sl i
theorem Tab.frg (h : Tab g gs sd bi l us W) (i : Nat) : W.frozen? ⟨g, i, none⟩ = false := blk_frozen h.hd i
theorem Tab.setU (h : Tab g gs sd bi l us W) (u : Int) : Tab g gs sd bi l u (W.setCell ⟨g, 3, none⟩ (.int .i64 u)) := ⟨blk_put h.hd 3 _ rfl, blk_far h.sl h.ne _, h.ne⟩
theorem Tab.setS (h : Tab g gs sd bi l us W) {i : Nat} (hi : i < l.length) (s : S84) : Tab g gs sd bi (l.set i s) us ((((W.setCell ⟨gs, i * 4, none⟩ (.bool s.f0)).setCell ⟨gs, i * 4 + 1, none⟩ (.string s.f1)).setCell ⟨gs, i * 4 + 2, none⟩ (.int .i64 s.f2)).setCell ⟨gs, i * 4 + 3, none⟩ (.int .i64 s.f3)) := by
  have hne : g ≠ gs := fun e => h.ne e.symm
  refine ⟨?_, ?_, h.ne⟩
  · rw [List.length_set]; exact blk_far (blk_far (blk_far (blk_far h.hd hne _) hne _) hne _) hne _
  · have q := blk_put (blk_put (blk_put (blk_put h.sl (i * 4) (.bool s.f0) rfl) (i * 4 + 1) (.string s.f1) rfl) (i * 4 + 2) (.int .i64 s.f2) rfl) (i * 4 + 3) (.int .i64 s.f3) rfl
    simp only [List.setIfInBounds_toArray] at q
    rw [cellsOf_set l i s hi, Nat.mul_comm 4 i]
    exact q
theorem Tab.set2 (h : Tab g gs sd bi l us W) {i : Nat} {s : S84} (hi : l[i]? = some s) (v : Int) : Tab g gs sd bi (l.set i ⟨s.f0, s.f1, v, s.f3⟩) us (W.setCell ⟨gs, i * 4 + 2, none⟩ (.int .i64 v)) := by
  have hne : g ≠ gs := fun e => h.ne e.symm
  refine ⟨?_, ?_, h.ne⟩
  · rw [List.length_set]; exact blk_far h.hd hne _
  · have q := blk_put h.sl (i * 4 + 2) (.int .i64 v) rfl
    simp only [List.setIfInBounds_toArray] at q
    rw [cellsOf_set2 l i s v hi, Nat.mul_comm 4 i]
    exact q
theorem Tab.set3 (h : Tab g gs sd bi l us W) {i : Nat} {s : S84} (hi : l[i]? = some s) (v : Int) : Tab g gs sd bi (l.set i ⟨s.f0, s.f1, s.f2, v⟩) us (W.setCell ⟨gs, i * 4 + 3, none⟩ (.int .i64 v)) := by
  have hne : g ≠ gs := fun e => h.ne e.symm
  refine ⟨?_, ?_, h.ne⟩
  · rw [List.length_set]; exact blk_far h.hd hne _
  · have q := blk_put h.sl (i * 4 + 3) (.int .i64 v) rfl
    simp only [List.setIfInBounds_toArray] at q
    rw [cellsOf_set3 l i s v hi, Nat.mul_comm 4 i]
    exact q
end
/-- All but some blocks is as it was. -/
structure Fr (S : Nat → Prop) (w W : World) : Prop where
  os : W.os = w.os
  tape : W.tape = w.tape
  output : W.output = w.output
  size : w.heap.size ≤ W.heap.size
  block : ∀ i, i < w.heap.size → ¬ S i → W.heap[i]? = w.heap[i]?
section
variable {S : Nat → Prop} {w W W2 : World}
theorem Fr.refl (S : Nat → Prop) (w : World) : Fr S w w := ⟨rfl, rfl, rfl, Nat.le_refl _, fun _ _ _ => rfl⟩
theorem Fr.of_below (h : Below w.heap.size w W) (S : Nat → Prop) : Fr S w W := ⟨h.os, h.tape, h.output, h.size, fun i hi _ => h.block i hi⟩
theorem Fr.trans (h : Fr S w W) (k : Fr S W W2) : Fr S w W2 := ⟨k.os.trans h.os, k.tape.trans h.tape, k.output.trans h.output, Nat.le_trans h.size k.size, fun i hi hn => (k.block i (Nat.lt_of_lt_of_le hi h.size) hn).trans (h.block i hi hn)⟩
theorem Fr.set (h : Fr S w W) (p : Addr) (hp : S p.block ∨ w.heap.size ≤ p.block) (v : Value) : Fr S w (W.setCell p v) := ⟨h.os, h.tape, h.output, by simpa [World.setCell] using h.size, fun i hi hn => (Below.heap_setCell W p v i (fun e => by rcases hp with h1 | h1; exact hn (e ▸ h1); omega)).trans (h.block i hi hn)⟩
theorem Fr.drew (h : Fr S w W) : Fr S w W.drew := ⟨h.os, h.tape, h.output, h.size, h.block⟩
theorem Fr.alloc (h : Fr S w W) (o : Obj) : Fr S w (W.alloc o) := ⟨h.os, h.tape, h.output, by have := h.size; simp; omega, fun i hi hn => (Below.heap_alloc W o i (Nat.lt_of_lt_of_le hi h.size)).trans (h.block i hi hn)⟩
theorem Fr.below {B : Nat} (h : Fr S w W) (hS : ∀ q, S q → B ≤ q) (hB : B ≤ w.heap.size) : Below B w W := ⟨h.os, h.tape, h.output, h.size, fun i hi => h.block i (by omega) (fun hs => by have := hS i hs; omega)⟩
theorem Fr.mono {S' : Nat → Prop} (h : Fr S w W) (hs : ∀ q, S q → S' q) : Fr S' w W := ⟨h.os, h.tape, h.output, h.size, fun i hi hn => h.block i hi (fun hq => hn (hs i hq))⟩
theorem Fr.blk (h : Fr S w W) {b : Nat} {o : Obj} (hb : w.heap[b]? = some o) (hn : ¬ S b) : W.heap[b]? = some o := (h.block b (blk_lt hb) hn).trans hb
end
/-- A key on its way to a slot. -/
def putL : Nat → List S84 → Nat → S84 → Option (List S84)
  | 0, _, _, _ => none
  | k + 1, l, i, x => if (rd_T84 l (i : Int)).f0 = false then some (l.set i x) else if (rd_T84 l (i : Int)).f3 < x.f3 then putL k (l.set i x) ((i + 1) % l.length) ⟨(rd_T84 l (i : Int)).f0, (rd_T84 l (i : Int)).f1, (rd_T84 l (i : Int)).f2, wrap64 ((rd_T84 l (i : Int)).f3 + 1)⟩ else putL k l ((i + 1) % l.length) ⟨x.f0, x.f1, x.f2, wrap64 (x.f3 + 1)⟩
def putT (k : Nat) (sd : Int) (b : Nat) (l : List S84) (us : Int) (key : ByteArray) (v : Int) : Option (List S84 × Int × Int) :=
  if key.size = 0 ∨ key.size > 33 then some (l, us, 1) else match findT sd b l key with
  | some i => some (l.set i ⟨(rd_T84 l (i : Int)).f0, (rd_T84 l (i : Int)).f1, v, (rd_T84 l (i : Int)).f3⟩, us, 0)
  | none => if us = (l.length : Int) then some (l, us, 4) else (putL k l (homeN sd b key) ⟨true, key, v, 0⟩).map fun m => (m, wrap64 (us + 1), 0)
def robin_Table_Put.f (k : Nat) : Option Int := some 0
theorem robin_Table_Put.calls_nil (key : ByteArray) (v : Int) (w : World) : Calls Try.prog 39 #[.pointer none, .string key, .int .i64 v] w fun e w' => e = .returned (.int .i64 4) ∧ w' = w := by
  go_enter Try.func39, Try.ntmps39
  go_wp2
  go_ret
  exact ⟨rfl, rfl⟩
theorem len0 {s : ByteArray} : (s.toList == ([] : List UInt8)) = decide (s.size = 0) := by
  rw [ByteArray.toList_eq]
  obtain ⟨⟨d⟩⟩ := s
  cases d with
  | nil => rfl
  | cons x d => rfl
set_option maxHeartbeats 2000000 in
theorem robin_Table_Put.calls (k g gs : Nat) (sd us : Int) (b : Nat) (l : List S84) (key : ByteArray) (v : Int) (l' : List S84) (us' e' : Int) (w : World) (ht : Tab g gs sd (b : Int) l us w) (hl : l.length = 2 ^ b) (h0 : 1 ≤ b) (h1 : b ≤ 8) (hk : key.size ≤ 4611686018427387904) (h : putT k sd b l us key v = some (l', us', e')) :
    Calls Try.prog 39 #[.pointer (some ⟨g, 0, none⟩), .string key, .int .i64 v] w fun e w' => e = .returned (.int .i64 e') ∧ Tab g gs sd (b : Int) l' us' w' ∧ l'.length = l.length ∧ Fr (fun q => q = g ∨ q = gs) w w' := by
  have HT := Aside0.mk ht
  have HL := Aside0.mk hl
  obtain ⟨l1, l2⟩ := len_pow hl h1
  have HK := Aside0.mk hk
  have ze := len0 (s := key)
  unfold putT at h
  by_cases k1 : key.size = 0
  · rw [if_pos (Or.inl k1)] at h
    simp only [Option.some.injEq, Prod.mk.injEq] at h
    obtain ⟨rfl, rfl, rfl⟩ := h
    rw [decide_eq_true k1] at ze
    go_enter Try.func39, Try.ntmps39
    go_wp2
    go_ret
    exact ⟨rfl, HT.out, (by first | rfl | trivial), Fr.refl _ _⟩
  rw [decide_eq_false k1] at ze
  by_cases k2 : key.size > 33
  · rw [if_pos (Or.inr k2)] at h
    simp only [Option.some.injEq, Prod.mk.injEq] at h
    obtain ⟨rfl, rfl, rfl⟩ := h
    have d2 : decide ((33 : Int) < (key.size : Int)) = true := decide_eq_true (by omega)
    go_enter Try.func39, Try.ntmps39
    go_wp2
    go_ret
    exact ⟨rfl, HT.out, (by first | rfl | trivial), Fr.refl _ _⟩
  rw [if_neg (by omega)] at h
  have d2 : decide ((33 : Int) < (key.size : Int)) = false := decide_eq_false (by omega)
  have FF := robin_Table_find.calls g gs sd us b l key w ht hl h0 h1 hk
  obtain ⟨R, hR⟩ : ∃ R, findT sd b l key = R := ⟨_, rfl⟩
  have HR := Aside0.mk hR
  rw [hR] at FF h
  have HF := Aside0.mk FF
  clear hR FF ht hl hk k1 k2
  cases R with
  | some i =>
    simp only [Option.some.injEq, Prod.mk.injEq] at h
    obtain ⟨rfl, rfl, rfl⟩ := h
    have hi : i < l.length := findL_lt (by omega) HR.out
    go_enter Try.func39, Try.ntmps39
    go_wp2_with (go_at_call 46; refine HF.out.mono ?_; rintro e w1 ⟨rfl, hb⟩; have HB := Aside0.mk hb; replace HT := Aside0.mk (HT.out.below hb); clear hb; have c2 := (blk_cell HT.out.hd 2).trans rfl; obtain ⟨x0, x1, x2, x3⟩ := HT.out.cell (rdT_at hi); have fz := HT.out.frz (i * 4 + 2))
    go_ret
    exact ⟨rfl, HT.out.set2 (rdT_at hi) v, List.length_set .., (Fr.of_below HB.out _).set ⟨gs, i * 4 + 2, none⟩ (Or.inl (Or.inr rfl)) _⟩
  | none =>
    simp only at h
    by_cases hu : us = (l.length : Int)
    · rw [if_pos hu] at h
      simp only [Option.some.injEq, Prod.mk.injEq] at h
      obtain ⟨rfl, rfl, rfl⟩ := h
      have du : (us == (l.length : Int)) = true := beq_iff_eq.mpr hu
      clear hu
      go_enter Try.func39, Try.ntmps39
      go_wp2_with (go_at_call 46; refine HF.out.mono ?_; rintro e w1 ⟨rfl, hb⟩; have HB := Aside0.mk hb; replace HT := Aside0.mk (HT.out.below hb); clear hb; have c2 := (blk_cell HT.out.hd 2).trans rfl; have c3 := (blk_cell HT.out.hd 3).trans rfl)
      repeat (go_quiet (fail); try go_wp2)
      go_ret
      exact ⟨rfl, by first | exact HT.out.drew | exact HT.out.drewN _, (by first | rfl | trivial), by first | exact (Fr.of_below HB.out _).drew | exact Fr.of_below (pw_below_drewN HB.out _) _⟩
    rw [if_neg hu] at h
    have du : (us == (l.length : Int)) = false := beq_eq_false_iff_ne.mpr hu
    clear hu
    obtain ⟨m, hm, h⟩ := Option.map_eq_some_iff.1 h
    simp only [Prod.mk.injEq] at h
    obtain ⟨rfl, rfl, rfl⟩ := h
    have H := Aside0.mk hm
    clear hm
    go_enter Try.func39, Try.ntmps39
    go_upto_region 9 with (go_at_call 46; refine HF.out.mono ?_; rintro e w1 ⟨rfl, hb⟩; have HB := Aside0.mk hb; replace HT := Aside0.mk (HT.out.below hb); clear hb; have c2 := (blk_cell HT.out.hd 2).trans rfl; have c3 := (blk_cell HT.out.hd 3).trans rfl)
    go_quiet (fail)
    go_upto_region 11 with (fail)
    obtain ⟨w2, hw2⟩ : ∃ w2, w1.drewN nq = w2 := ⟨_, rfl⟩
    have HT2 := Aside0.mk (hw2 ▸ HT.out.drewN nq)
    have HR2 := Aside0.mk (show Fr (fun q => q = g ∨ q = gs) w w2 from hw2 ▸ Fr.of_below (pw_below_drewN HB.out nq) _)
    rw [hw2]
    clear hw2 HB HT c2 c3
    have HGX := Aside0.mk (show w.heap.size ≤ w2.heap.size from HR2.out.size)
    have HG := Aside0.mk (And.intro (blk_lt HT2.out.hd) (blk_lt HT2.out.sl))
    go_upto_region 12 with (fail)
    have HX := Aside0.mk (blk_new w2 (.cells #[.bool true, .string key, .int .i64 v, .int .i64 0] 84))
    replace HT2 := Aside0.mk (HT2.out.alloc (.cells #[.bool true, .string key, .int .i64 v, .int .i64 0] 84))
    replace HR2 := Aside0.mk (HR2.out.alloc (.cells #[.bool true, .string key, .int .i64 v, .int .i64 0] 84))
    go_wp2_with (go_at_call 48; refine (robin_Table_home.calls g gs sd us b l key _ HT2.out h0 h1 HK.out).mono ?_; rintro e w3 ⟨rfl, hb⟩; have HT3 := Aside0.mk (HT2.out.below hb); have HX3 := Aside0.mk (blk_below HX.out hb); have HR3 := Aside0.mk (HR2.out.trans (Fr.of_below hb _)); clear hb)
    have hlt0 := homeN_lt sd b key h0 (by omega)
    rw [← HL.out] at hlt0
    have HLT := Aside0.mk hlt0
    clear hlt0 HT2 HX HR2
    obtain ⟨gx, hgx⟩ : ∃ gx, w2.heap.size = gx := ⟨_, rfl⟩
    rw [hgx] at HX3 HG HGX ⊢
    clear hgx
    go_loopg [10] k (fun kq v10 w' => ∃ (lq : List S84) (i : Nat) (x : S84), v10 = .int .i64 (i : Int) ∧ Aside0 (putL kq lq i x = some m) ∧ Aside0 (i < lq.length ∧ lq.length = l.length) ∧ Aside0 (Tab g gs sd (b : Int) lq us w') ∧ Aside0 (w'.heap[gx]? = some (.cells #[.bool x.f0, .string x.f1, .int .i64 x.f2, .int .i64 x.f3] 84 (0, 0))) ∧ Aside0 (Fr (fun q => q = g ∨ q = gs) w w'))
    case atStart => exact ⟨l, _, ⟨true, key, v, 0⟩, rfl, H, ⟨HLT.out, rfl⟩, HT3, HX3, HR3⟩
    case round =>
      clear H HT3 HX3 HR3 HLT
      obtain ⟨lq, i, x, rfl, HA, HI, HT, HX, HR⟩ := hrel
      cases gk with
      | zero => exact absurd HA.out (by simp [putL])
      | succ k1 =>
        have H := HA.out
        clear HA
        simp only [putL] at H
        have hi := HI.out.1
        obtain ⟨x0, x1, x2, x3⟩ := HT.out.cell (rdT_at hi)
        have c2 : wr.cell? ⟨g, 2, none⟩ = some (.slice (some ⟨gs, 0, none⟩) lq.length lq.length) := (blk_cell HT.out.hd 2).trans rfl
        have c3 : wr.cell? ⟨g, 3, none⟩ = some (.int .i64 us) := (blk_cell HT.out.hd 3).trans rfl
        have f3 : wr.frozen? ⟨g, 3, none⟩ = false := HT.out.frg 3
        have z0 : wr.frozen? ⟨gs, i * 4, none⟩ = false := HT.out.frz _
        have z1 : wr.frozen? ⟨gs, i * 4 + 1, none⟩ = false := HT.out.frz _
        have z2 : wr.frozen? ⟨gs, i * 4 + 2, none⟩ = false := HT.out.frz _
        have z3 : wr.frozen? ⟨gs, i * 4 + 3, none⟩ = false := HT.out.frz _
        have y0 : wr.cell? ⟨gx, 0, none⟩ = some (.bool x.f0) := (blk_cell HX.out 0).trans rfl
        have y1 : wr.cell? ⟨gx, 1, none⟩ = some (.string x.f1) := (blk_cell HX.out 1).trans rfl
        have y2 : wr.cell? ⟨gx, 2, none⟩ = some (.int .i64 x.f2) := (blk_cell HX.out 2).trans rfl
        have y3 : wr.cell? ⟨gx, 3, none⟩ = some (.int .i64 x.f3) := (blk_cell HX.out 3).trans rfl
        have v0 : wr.frozen? ⟨gx, 0, none⟩ = false := blk_frozen HX.out 0
        have v1 : wr.frozen? ⟨gx, 1, none⟩ = false := blk_frozen HX.out 1
        have v2 : wr.frozen? ⟨gx, 2, none⟩ = false := blk_frozen HX.out 2
        have v3 : wr.frozen? ⟨gx, 3, none⟩ = false := blk_frozen HX.out 3
        obtain ⟨x0d, x1d, x2d, x3d⟩ := HT.out.drew.cell (rdT_at hi)
        have c2d : wr.drew.cell? ⟨g, 2, none⟩ = some (.slice (some ⟨gs, 0, none⟩) lq.length lq.length) := (blk_cell HT.out.hd 2).trans rfl
        have c3d : wr.drew.cell? ⟨g, 3, none⟩ = some (.int .i64 us) := (blk_cell HT.out.hd 3).trans rfl
        have f3d : wr.drew.frozen? ⟨g, 3, none⟩ = false := HT.out.frg 3
        have z0d : wr.drew.frozen? ⟨gs, i * 4, none⟩ = false := HT.out.frz _
        have z1d : wr.drew.frozen? ⟨gs, i * 4 + 1, none⟩ = false := HT.out.frz _
        have z2d : wr.drew.frozen? ⟨gs, i * 4 + 2, none⟩ = false := HT.out.frz _
        have z3d : wr.drew.frozen? ⟨gs, i * 4 + 3, none⟩ = false := HT.out.frz _
        have y0d : wr.drew.cell? ⟨gx, 0, none⟩ = some (.bool x.f0) := (blk_cell HX.out 0).trans rfl
        have y1d : wr.drew.cell? ⟨gx, 1, none⟩ = some (.string x.f1) := (blk_cell HX.out 1).trans rfl
        have y2d : wr.drew.cell? ⟨gx, 2, none⟩ = some (.int .i64 x.f2) := (blk_cell HX.out 2).trans rfl
        have y3d : wr.drew.cell? ⟨gx, 3, none⟩ = some (.int .i64 x.f3) := (blk_cell HX.out 3).trans rfl
        have v0d : wr.drew.frozen? ⟨gx, 0, none⟩ = false := blk_frozen HX.out 0
        have v1d : wr.drew.frozen? ⟨gx, 1, none⟩ = false := blk_frozen HX.out 1
        have v2d : wr.drew.frozen? ⟨gx, 2, none⟩ = false := blk_frozen HX.out 2
        have v3d : wr.drew.frozen? ⟨gx, 3, none⟩ = false := blk_frozen HX.out 3
        have n1 : g ≠ gs := fun e => HT.out.ne e.symm
        have n2 : gs ≠ g := HT.out.ne
        have n3 : gx ≠ g := by have := HG.out.1; omega
        have n4 : g ≠ gx := fun e => n3 e.symm
        have n5 : gx ≠ gs := by have := HG.out.2; omega
        have n6 : gs ≠ gx := fun e => n5 e.symm
        by_cases hu : (rd_T84 lq (i : Int)).f0 = false
        · rw [if_pos hu] at H
          obtain rfl := Option.some.inj H
          rw [hu] at x0 x0d
          go_wp2
          go_region
          all_goals go_wp2
          go_ret
          exact ⟨rfl, ((HT.out.setS hi x).setU _).drew, (by rw [List.length_set]; exact HI.out.2), (((((HR.out.set ⟨gs, i * 4, none⟩ (Or.inl (Or.inr rfl)) _).set ⟨gs, i * 4 + 1, none⟩ (Or.inl (Or.inr rfl)) _).set ⟨gs, i * 4 + 2, none⟩ (Or.inl (Or.inr rfl)) _).set ⟨gs, i * 4 + 3, none⟩ (Or.inl (Or.inr rfl)) _).set ⟨g, 3, none⟩ (Or.inl (Or.inl rfl)) _).drew⟩
        rw [if_neg hu] at H
        rw [Bool.not_eq_false] at hu
        rw [hu] at x0 x0d
        by_cases hd : (rd_T84 lq (i : Int)).f3 < x.f3
        · rw [if_pos hd] at H
          have H' := Aside0.mk H
          clear H
          have d3 : decide ((rd_T84 lq (i : Int)).f3 < x.f3) = true := decide_eq_true hd
          go_upto_region 18 with (fail)
          go_region
          go_upto_region 19 with (fail)
          go_region
          go_upto_region 13 with (fail)
          rw [hu] at H'
          have HTn := Aside0.mk ((((((((HT.out.setS hi x).far (p := ⟨gx, 0, none⟩) n4 n6 (.bool true)).far (p := ⟨gx, 1, none⟩) n4 n6 (.string (rd_T84 lq (i : Int)).f1)).far (p := ⟨gx, 2, none⟩) n4 n6 (.int .i64 (rd_T84 lq (i : Int)).f2)).far (p := ⟨gx, 3, none⟩) n4 n6 (.int .i64 (rd_T84 lq (i : Int)).f3)).far (p := ⟨gx, 3, none⟩) n4 n6 (.int .i64 (wrap64 ((rd_T84 lq (i : Int)).f3 + 1)))).drew).drew)
          have HXn := Aside0.mk (blk_drew (blk_drew (blk_put (blk_put (blk_put (blk_put (blk_put (blk_far (blk_far (blk_far (blk_far HX.out (p := ⟨gs, i * 4, none⟩) n5 (.bool x.f0)) (p := ⟨gs, i * 4 + 1, none⟩) n5 (.string x.f1)) (p := ⟨gs, i * 4 + 2, none⟩) n5 (.int .i64 x.f2)) (p := ⟨gs, i * 4 + 3, none⟩) n5 (.int .i64 x.f3)) 0 (.bool true) rfl) 1 (.string (rd_T84 lq (i : Int)).f1) rfl) 2 (.int .i64 (rd_T84 lq (i : Int)).f2) rfl) 3 (.int .i64 (rd_T84 lq (i : Int)).f3) rfl) 3 (.int .i64 (wrap64 ((rd_T84 lq (i : Int)).f3 + 1))) rfl)))
          have HRn := Aside0.mk (((((((((((HR.out.set ⟨gs, i * 4, none⟩ (Or.inl (Or.inr rfl)) (.bool x.f0)).set ⟨gs, i * 4 + 1, none⟩ (Or.inl (Or.inr rfl)) (.string x.f1)).set ⟨gs, i * 4 + 2, none⟩ (Or.inl (Or.inr rfl)) (.int .i64 x.f2)).set ⟨gs, i * 4 + 3, none⟩ (Or.inl (Or.inr rfl)) (.int .i64 x.f3)).set ⟨gx, 0, none⟩ (Or.inr HGX.out) (.bool true)).set ⟨gx, 1, none⟩ (Or.inr HGX.out) (.string (rd_T84 lq (i : Int)).f1)).set ⟨gx, 2, none⟩ (Or.inr HGX.out) (.int .i64 (rd_T84 lq (i : Int)).f2)).set ⟨gx, 3, none⟩ (Or.inr HGX.out) (.int .i64 (rd_T84 lq (i : Int)).f3)).set ⟨gx, 3, none⟩ (Or.inr HGX.out) (.int .i64 (wrap64 ((rd_T84 lq (i : Int)).f3 + 1)))).drew).drew)
          have HLn := Aside0.mk (show (lq.set i x).length = 2 ^ b by rw [List.length_set]; exact HI.out.2.trans HL.out)
          have HMn := Aside0.mk (show i ≤ 100000 by have := HI.out; omega)
          obtain ⟨i2, hi2⟩ : ∃ i2, (i + 1) % lq.length = i2 := ⟨_, rfl⟩
          rw [hi2] at H'
          have HI2 := Aside0.mk hi2
          clear hi2
          go_wp2_with (go_at_call 47; refine (robin_Table_at.calls g gs sd (b : Int) us (lq.set i x) b i 1 _ HTn.out HLn.out h1 HMn.out (by omega) i2 (by rw [List.length_set]; exact HI2.out)).mono ?_; rintro e w4 ⟨rfl, rfl⟩)
          go_roundg k1
          case measure => omega
          case rel => exact ⟨lq.set i x, i2, _, rfl, H', ⟨by rw [← HI2.out, List.length_set]; exact Nat.mod_lt _ (by omega), by rw [List.length_set]; exact HI.out.2⟩, HTn, HXn, HRn⟩
        rw [if_neg hd] at H
        have H' := Aside0.mk H
        clear H
        have d3 : decide ((rd_T84 lq (i : Int)).f3 < x.f3) = false := decide_eq_false hd
        go_upto_region 18 with (fail)
        go_region
        all_goals go_upto_region 13 with (fail)
        have HTn := Aside0.mk ((HT.out.far (p := ⟨gx, 3, none⟩) n4 n6 (.int .i64 (wrap64 (x.f3 + 1)))).drew)
        have HXn := Aside0.mk (blk_drew (blk_put HX.out 3 (.int .i64 (wrap64 (x.f3 + 1))) rfl))
        have HRn := Aside0.mk ((HR.out.set ⟨gx, 3, none⟩ (Or.inr HGX.out) (.int .i64 (wrap64 (x.f3 + 1)))).drew)
        have HLn := Aside0.mk (HI.out.2.trans HL.out)
        have HMn := Aside0.mk (show i ≤ 100000 by have := HI.out; omega)
        obtain ⟨i2, hi2⟩ : ∃ i2, (i + 1) % lq.length = i2 := ⟨_, rfl⟩
        rw [hi2] at H'
        have HI2 := Aside0.mk hi2
        clear hi2
        go_wp2_with (go_at_call 47; refine (robin_Table_at.calls g gs sd (b : Int) us lq b i 1 _ HTn.out HLn.out h1 HMn.out (by omega) i2 HI2.out).mono ?_; rintro e w4 ⟨rfl, rfl⟩)
        go_roundg k1
        case measure => omega
        case rel => exact ⟨lq, i2, _, rfl, H', ⟨by rw [← HI2.out]; exact Nat.mod_lt _ (by omega), HI.out.2⟩, HTn, HXn, HRn⟩

end Go.Proofs.Ytmnikjhnomphmaa.Q
