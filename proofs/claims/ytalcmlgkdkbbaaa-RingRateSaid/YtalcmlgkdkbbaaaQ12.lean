-- Laid by wip/tools/hprint.py, a program of this repo, over the kit's print; not a text of print.sh.
import Derived.Test.YtalcmlgkdkbbaaaQ0
import Derived.Test.YtalcmlgkdkbbaaaQ8
namespace Go.Proofs.Ytalcmlgkdkbbaaa.Q
open Go.RowKit Go.Proofs.Ytalcmlgkdkbbaaa.Zip Go.Proofs.YtalcmlgkdkbbaaaW.PrintWords Go.Proofs.YtalcmlgkdkbbaaaW.PrintLast Go.Proofs.YtalcmlgkdkbbaaaW.PrintMore
attribute [local go_sem] max2_int min2_int max_two min_two max_three min_three max_four min_four   -- for this text's walks alone
set_option linter.unusedVariables false
set_option linter.unusedSimpArgs false

/-! ### ring_at: given by hand -/
open Go.Shelf
attribute [local go_sem] Oper.semAt_some
/-- The places of the buckets that go: f, f + 1, .., at most B of them, none above last. -/
def goneN (B f last : Int) : Nat := (min (last - f + 1) B).toNat
def upG (B f : Int) (n : Nat) : List Int := (List.range n).map fun (i : Nat) => (f + (i : Int)) % B
def goneL (B f last : Int) : List Int := upG B f (goneN B f last)
/-- A place of a bucket. -/
abbrev Pl (B : Int) : Type := { x : Int // 0 ≤ x ∧ x < B }
def plS (B f : Int) (hB : 1 ≤ B) (hf : 0 ≤ f) (i : Nat) : Pl B := ⟨(f + (i : Int)) % B, by exact ⟨Int.emod_nonneg _ (by omega), Int.emod_lt_of_pos _ (by omega)⟩⟩
def upS (B f : Int) (hB : 1 ≤ B) (hf : 0 ≤ f) (n : Nat) : List (Pl B) := (List.range n).map fun (i : Nat) => plS B f hB hf i
theorem upS_succ (B f : Int) (hB : 1 ≤ B) (hf : 0 ≤ f) (n : Nat) : upS B f hB hf (n + 1) = upS B f hB hf n ++ [plS B f hB hf n] := by simp [upS, List.range_succ]
theorem upS_length (B f : Int) (hB : 1 ≤ B) (hf : 0 ≤ f) (n : Nat) : (upS B f hB hf n).length = n := by simp [upS]
theorem upS_val (B f : Int) (hB : 1 ≤ B) (hf : 0 ≤ f) (n : Nat) : (upS B f hB hf n).map (·.1) = upG B f n := by simp [upS, upG, plS]
theorem upS_pre (B f : Int) (hB : 1 ≤ B) (hf : 0 ≤ f) {m n : Nat} (h : m ≤ n) : upS B f hB hf m <+: upS B f hB hf n := by
  obtain ⟨d, rfl⟩ := Nat.exists_eq_add_of_le h
  induction d with
  | zero => exact List.prefix_refl _
  | succ d ih => exact (ih (by omega)).trans ⟨_, (upS_succ B f hB hf (m + d)).symm⟩
theorem gone_calls (k l v b from_ to_ : Int) (w : World) : Calls Try.prog 35 #[.agg #[.int .i64 k, .int .i64 l, .int .i64 v, .int .i64 b], .int .i64 from_, .int .i64 to_] w fun e w' => e = .returned (.func (.func 39) #[] #[.pointer (some ⟨w.heap.size, 0, none⟩), .pointer (some ⟨w.heap.size + 1, 0, none⟩), .pointer (some ⟨w.heap.size + 1 + 1, 0, none⟩)]) ∧ w' = ((w.alloc (.cells #[.int .i64 k, .int .i64 l, .int .i64 v, .int .i64 b] 23)).alloc (.cells #[.int .i64 from_] 3)).alloc (.cells #[.int .i64 to_] 3) := by
  go_enter Try.func35, Try.ntmps35
  go_wp2
  go_ret
  exact ⟨rfl, rfl⟩
/-- What a round keeps: the policy's box. -/
def KeepCap (o : Obj) (Bp : Nat) (W W' : World) : Prop := W.heap[Bp]? = some o → W'.heap[Bp]? = some o
theorem keepP {w0 W w1 : World} {p0 p1 p2 p3 p4 p5 : Addr} {v0 v1 v2 v3 v4 v5 : Value} (hb : Below W.heap.size W w1) (h : W.cell? p0 = some v0 ∧ W.cell? p1 = some v1 ∧ W.cell? p2 = some v2 ∧ W.cell? p3 = some v3 ∧ W.cell? p4 = some v4 ∧ W.cell? p5 = some v5 ∧ Below w0.heap.size w0 W) :
    w1.cell? p0 = some v0 ∧ w1.cell? p1 = some v1 ∧ w1.cell? p2 = some v2 ∧ w1.cell? p3 = some v3 ∧ w1.cell? p4 = some v4 ∧ w1.cell? p5 = some v5 ∧ Below w0.heap.size w0 w1 :=
  ⟨pw_cell_below hb h.1, pw_cell_below hb h.2.1, pw_cell_below hb h.2.2.1, pw_cell_below hb h.2.2.2.1, pw_cell_below hb h.2.2.2.2.1, pw_cell_below hb h.2.2.2.2.2.1, h.2.2.2.2.2.2.trans (hb.mono h.2.2.2.2.2.2.size)⟩
theorem of7 {a b c d e f g : Prop} (h : a ∧ b ∧ c ∧ d ∧ e ∧ f ∧ g) : g := h.2.2.2.2.2.2
set_option maxRecDepth 100000 in
set_option maxHeartbeats 4000000 in
theorem gone1_stops (n : Nat) (hn : 1 ≤ n) (Bp Bf Bt : Nat) (k l v b from_ to_ a c : Int) (w : World)
    (hp : w.heap[Bp]? = some (.cells #[.int .i64 k, .int .i64 l, .int .i64 v, .int .i64 b] 23 (0, 0))) (hf : w.heap[Bf]? = some (.cells #[.int .i64 from_] 3 (0, 0))) (ht : w.heap[Bt]? = some (.cells #[.int .i64 to_] 3 (0, 0)))
    (ha : ring_number.f k l v b from_ = some a) (hc : ring_number.f k l v b to_ = some c) (hb1 : 1 ≤ b) (hb2 : b ≤ 16) (ha1 : 0 ≤ a) (ha2 : a ≤ 4611686018427387904) (hc1 : -4611686018427387904 ≤ c) (hc2 : c ≤ 4611686018427387904) :
    SeqStopsK Fence.wide n Try.prog 39 #[.pointer (some ⟨Bp, 0, none⟩), .pointer (some ⟨Bf, 0, none⟩), .pointer (some ⟨Bt, 0, none⟩)] (fun x : Pl b => #[.int .i64 x.1]) (KeepCap (.cells #[.int .i64 k, .int .i64 l, .int .i64 v, .int .i64 b] 23 (0, 0)) Bp) (fun xs => xs = upS b (a + 1) hb1 (by omega) (goneN b (a + 1) c)) (fun pre => pre <+: upS b (a + 1) hb1 (by omega) (goneN b (a + 1) c)) (goneN b (a + 1) c) w := fun ll J Jx W hW hJ hJx hY h0 => by
  have hpl : Bp < w.heap.size := (Array.getElem?_eq_some_iff.1 hp).1
  have hfl : Bf < w.heap.size := (Array.getElem?_eq_some_iff.1 hf).1
  have htl : Bt < w.heap.size := (Array.getElem?_eq_some_iff.1 ht).1
  have HP := Aside0.mk ((hW.block _ hpl).trans hp)
  have HA := Aside0.mk ha
  have HC := Aside0.mk hc
  obtain ⟨q0, q1, q2, q3⟩ := ce4 HP
  have qf : W.cell? ⟨Bf, 0, none⟩ = some (.int .i64 from_) := by rw [cell_of_row W Bf _ _ 3 (0, 0) ((hW.block _ hfl).trans hf)]; rfl
  have qt : W.cell? ⟨Bt, 0, none⟩ = some (.int .i64 to_) := by rw [cell_of_row W Bt _ _ 3 (0, 0) ((hW.block _ htl).trans ht)]; rfl
  have H0 := Aside0.mk h0
  clear hp hf ht ha hc h0 hpl hfl htl
  refine callsIn_of_wp Try.func39 rfl trivial ?_ rfl
  simp only [Try.ntmps39, List.size_toArray, List.length_cons, List.length_nil, Nat.reduceAdd, Nat.reduceSub, Array.replicate_succ, Array.replicate_zero, List.push_toArray, List.append_toArray, List.nil_append, List.cons_append]
  have dw : IntKind.i64.wrap (a + 1) = a + 1 := IntWalk.i64_in _ ⟨by omega, by omega⟩
  gi_wp2
  refine wpIn_wide.2 ?_
  go_region_held3 (fun w' => w'.cell? ⟨Bp, 0, none⟩ = some (.int .i64 k) ∧ w'.cell? ⟨Bp, 1, none⟩ = some (.int .i64 l) ∧ w'.cell? ⟨Bp, 2, none⟩ = some (.int .i64 v) ∧ w'.cell? ⟨Bp, 3, none⟩ = some (.int .i64 b) ∧ w'.cell? ⟨Bf, 0, none⟩ = some (.int .i64 from_) ∧ w'.cell? ⟨Bt, 0, none⟩ = some (.int .i64 to_) ∧ Below W.heap.size W w')
    ((first | assumption | exact keepP (by assumption) (by assumption) | exact ⟨by go_simp, by go_simp, by go_simp, by go_simp, by go_simp, by go_simp, below_drew (Below.refl _ _)⟩))
    ((first | (go_at_call 25; refine (ring_number.calls k l v b from_ a _ HA.out).mono ?_; rintro e w4 ⟨rfl, hb⟩) | (go_at_call 25; refine (ring_number.calls k l v b to_ c _ HC.out).mono ?_; rintro e w4 ⟨rfl, hb⟩)))
  all_goals
    have hB7 : Below W.heap.size W w4 := of7 (by assumption)
    have HP4 := Aside0.mk ((hB7.block _ (Array.getElem?_eq_some_iff.1 HP.out).1).trans HP.out)
    have H4 := Aside0.mk (hJ [] W w4 none H0.out ⟨hB7.os, hB7.tape, hB7.output, hB7.size, fun k hk _ => hB7.block k hk⟩ (fun r e => by cases e))
    clear hB7 q0 q1 q2 q3 qf qt dw H0 HP
    have eb : (b == 0) = false := by simp; omega
    have eb2 : ¬ b = 0 := by omega
    have db : IntKind.i64.wrap (a + 1 + b) = a + 1 + b := IntWalk.i64_in _ ⟨by omega, by omega⟩
    gi_wp2
    gi_loopw [7] (fun u wr => ∃ j : Nat, j ≤ goneN b (a + 1) c ∧ u = .int .i64 (a + 1 + (j : Int)) ∧ Aside0 (J (upS b (a + 1) hb1 (by omega) j) wr) ∧ Aside0 (wr.heap[Bp]? = some (.cells #[.int .i64 k, .int .i64 l, .int .i64 v, .int .i64 b] 23 (0, 0))))
      (fun u _ => (a + 1 + (goneN b (a + 1) c : Int) - intOf u).toNat)
    case atStart => exact ⟨0, Nat.zero_le _, by simp, H4, HP4⟩
    case round =>
      clear H4 HP4
      obtain ⟨j, hj, rfl, HJ, HPr⟩ := hrel
      obtain ⟨q0, q1, q2, q3⟩ := ce4 HPr
      have hG : (goneN b (a + 1) c : Int) = max 0 (min (c - (a + 1) + 1) b) := by unfold goneN; omega
      by_cases hlt : j < goneN b (a + 1) c
      · obtain ⟨fn, tmps, assign, body, hy, hR⟩ := hY (upS b (a + 1) hb1 (by omega) j) (plS b (a + 1) hb1 (by omega) j) wr HJ.out (by rw [upS_length]; exact hlt)
        dsimp only [plS] at hy
        have e1 : decide (a + 1 + (j : Int) ≤ c) = true := decide_eq_true (by omega)
        have e2 : decide ((j : Int) < b) = true := decide_eq_true (by omega)
        have dj : IntKind.i64.wrap (a + 1 + (j : Int) + 1) = a + 1 + (j : Int) + 1 := IntWalk.i64_in _ ⟨by omega, by omega⟩
        have HG := Aside0.mk hG
        have HLT := Aside0.mk hlt
        clear hG hlt hj
        gi_wp2
        refine hR.mono ?_
        rintro e W3 (⟨rfl, hJ3, hk3⟩ | ⟨rfl, hJx3⟩)
        · have HP3 := Aside0.mk (hk3 HPr.out)
          have HJ3 := Aside0.mk hJ3
          clear hJ3 hk3 q0 q1 q2 q3
          obtain ⟨q0, q1, q2, q3⟩ := ce4 HP3
          gi_wp2
          go_roundw
          case rel =>
            have hg := HG.out
            have hl := HLT.out
            exact ⟨j + 1, by omega, by simp; omega, ⟨by rw [upS_succ]; exact HJ3.out⟩, HP3⟩
          case measure => have hl := HLT.out; simp [intOf]; omega
        · have HJ3 := Aside0.mk hJx3
          clear hJx3
          gi_wp2
          refine bodyPost_ret (results_none rfl _ _ _) rfl ?_
          refine ⟨⟨_, rfl⟩, .inr ⟨upS b (a + 1) hb1 (by omega) (j + 1), upS_pre b (a + 1) hb1 (by omega) HLT.out, ?_⟩⟩
          rw [upS_succ]; exact HJ3.out
      · obtain rfl : j = goneN b (a + 1) c := by omega
        by_cases h1 : a + 1 + (goneN b (a + 1) c : Int) ≤ c
        · have e1 : decide (a + 1 + (goneN b (a + 1) c : Int) ≤ c) = true := decide_eq_true h1
          have e2 : decide ((goneN b (a + 1) c : Int) < b) = false := decide_eq_false (by omega)
          clear hG hlt hj h1
          gi_wp2
          go_end0
          exact ⟨⟨_, rfl⟩, .inl ⟨_, rfl, HJ.out⟩⟩
        · have e1 : decide (a + 1 + (goneN b (a + 1) c : Int) ≤ c) = false := decide_eq_false h1
          clear hG hlt hj h1
          gi_wp2
          go_end0
          exact ⟨⟨_, rfl⟩, .inl ⟨_, rfl, HJ.out⟩⟩
theorem blk_at {W : World} {n : Nat} (h : W.heap.size = n) (cs : Array Value) (t : TypeId) : (W.alloc (.cells cs t)).heap[n]? = some (.cells cs t (0, 0)) := by subst h; exact blk_new _ _
def baseL (B : Int) (s : List Int) : List Int := if s.length = 0 then List.replicate B.toNat 0 else s
def zeroL (s : List Int) (is : List Int) : List Int := is.foldl (fun s i => s.set i.toNat 0) s
theorem zeroL_len (s is : List Int) : (zeroL s is).length = s.length := by
  unfold zeroL
  induction is generalizing s with
  | nil => rfl
  | cons i r ih => simp only [List.foldl_cons]; rw [ih, List.length_set]
theorem zeroL_snoc (s is : List Int) (i : Int) : zeroL s (is ++ [i]) = (zeroL s is).set i.toNat 0 := by simp [zeroL]
def ring_at.f (a0_0 a0_1 a0_2 a0_3 a1_0 a1_1 : Int) (l1_2 : List Int) (l1_3 : List S54) (a2 : Int) : Option (Int × Int × List Int × List S54) := (ring_number.f a0_0 a0_1 a0_2 a0_3 a1_0).bind fun a => (ring_number.f a0_0 a0_1 a0_2 a0_3 a2).bind fun c => if 1 ≤ a0_3 ∧ a0_3 ≤ 16 ∧ (l1_2.length = 0 ∨ (l1_2.length : Int) = a0_3) ∧ 0 ≤ a ∧ a ≤ 4611686018427387904 ∧ -4611686018427387904 ≤ c ∧ c ≤ 4611686018427387904 then some (a2, 0, zeroL (baseL a0_3 l1_2) (goneL a0_3 (a + 1) c), []) else none
/-- Between two rounds. -/
structure RoundI (w : World) (g : Nat) (m : Nat) (o : Obj) (s : List Int) (W : World) : Prop where
  row : Kd.R (Kd.int .i64) 3 W w.heap.size (fun k_ => k_ = g) (.slice (some ⟨g, 0, none⟩) m m) s
  var : W.heap[g + 1]? = some (.cells #[.slice (some ⟨g, 0, none⟩) m m] 24 (0, 0))
  res : W.heap[w.heap.size + 2]? = some o
  below : Below w.heap.size w W
theorem RoundI.kept {w : World} {g m : Nat} {o : Obj} {s : List Int} {W W' : World} {row : Option Nat} (h : RoundI w g m o s W) (hg : W.grownBy W' row) (hne : ∀ r, row = some r → g + 1 < r ∧ w.heap.size + 2 < r) : RoundI w g m o s W' := by
  have n1 : ∀ k, k ≤ g + 1 → some k ≠ row := fun k hk e => by have := (hne k e.symm).1; omega
  refine ⟨Kd.R_grown h.row hg (fun k hk => by subst hk; exact n1 _ (by omega)), (hg.block _ (Array.getElem?_eq_some_iff.1 h.var).1 (n1 _ (Nat.le_refl _))).trans h.var, (hg.block _ (Array.getElem?_eq_some_iff.1 h.res).1 (fun e => by have := (hne _ e.symm).2; omega)).trans h.res, h.below.grown hg h.below.size (fun k e => by have := (hne k e).2; omega)⟩
theorem RoundI.set {w : World} {g m : Nat} {o : Obj} {s : List Int} {W : World} (h : RoundI w g m o s W) (hg : w.heap.size + 2 < g) (i : Int) (h0 : 0 ≤ i) (h1 : i < (m : Int)) : RoundI w g m o (s.set i.toNat 0) (W.setCell ⟨g, i.toNat, none⟩ (.int .i64 0)) := by
  have hp := Kd.R_putn h.row i 0
  refine ⟨hp, ?_, ?_, h.below.setCell (p := ⟨g, i.toNat, none⟩) (by show w.heap.size ≤ g; omega) _⟩
  · exact (Below.heap_setCell _ _ _ _ (by show g + 1 ≠ g; omega)).trans h.var
  · exact (Below.heap_setCell _ _ _ _ (by show w.heap.size + 2 ≠ g; omega)).trans h.res
theorem RoundI.cell {w : World} {g m : Nat} {o : Obj} {s : List Int} {W : World} (h : RoundI w g m o s W) (i : Int) (h0 : 0 ≤ i) (h1 : i < (m : Int)) : W.cell? ⟨g, i.toNat, none⟩ = some (.int .i64 (rd s i)) ∧ W.frozen? ⟨g, i.toNat, none⟩ = false := by
  have hr := Kd.R_reads' h.row
  obtain ⟨ad, e, hc⟩ := Kd.at_int hr.2.2 i h0 (by omega)
  cases e
  rw [add_plain] at hc
  obtain ⟨inner, hown⟩ := Kd.R_own h.row
  obtain ⟨cells, hcells⟩ := own_typed hown g rfl
  exact ⟨hc, blk_frozen hcells _⟩
/-- The same, of places that have come. -/
def RI (w : World) (g m : Nat) (o : Obj) (s : List Int) (B : Int) (pre : List (Pl B)) (W : World) : Prop := RoundI w g m o (zeroL s (pre.map Subtype.val)) W
theorem RI.own {w : World} {g m : Nat} {o : Obj} {s : List Int} {B : Int} {N : Nat} (h1 : g + 1 < N) (h2 : w.heap.size + 2 < N) : OwnFrom N (RI w g m o s B) :=
  fun _ _ _ _ hs hg hr => RoundI.kept hs hg (fun r e => by have := (hr r e).1; omega)
set_option maxRecDepth 100000 in
set_option maxHeartbeats 8000000 in
theorem ring_at.calls (a0_0 : Int) (a0_1 : Int) (a0_2 : Int) (a0_3 : Int) (a1_0 : Int) (a1_1 : Int) (A1_2 : Option Addr) (c1_2 : Nat) (l1_2 : List Int) (A1_3 : Option Addr) (c1_3 : Nat) (l1_3 : List S54) (a2 : Int) (r1 : Int) (r2 : Int) (r3 : List Int) (r4 : List S54) (w : World) (hr1_2 : Kd.C (Kd.int .i64) w A1_2 l1_2.length l1_2) (hc1_2 : l1_2.length ≤ c1_2) (hr1_3 : Kd.C k54 w A1_3 l1_3.length l1_3) (hc1_3 : l1_3.length ≤ c1_3) (h : ring_at.f a0_0 a0_1 a0_2 a0_3 a1_0 a1_1 l1_2 l1_3 a2 = some (r1, r2, r3, r4)) :
  Calls Try.prog 23 #[.agg #[.int .i64 a0_0, .int .i64 a0_1, .int .i64 a0_2, .int .i64 a0_3], .agg #[.int .i64 a1_0, .int .i64 a1_1, .slice A1_2 l1_2.length c1_2, .slice A1_3 l1_3.length c1_3], .int .i64 a2] w fun e w' => ∃ v2_ v3_ : Value, e = .returned (.agg #[.int .i64 r1, .int .i64 r2, v2_, v3_]) ∧ Kd.R (Kd.int .i64) 3 w' w.heap.size (fun _ => True) v2_ r3 ∧ Kd.R k54 54 w' w.heap.size (fun _ => True) v3_ r4 ∧ Below w.heap.size w w' := by
 unfold ring_at.f at h
 obtain ⟨a, ha, h⟩ := Option.bind_eq_some_iff.1 h
 obtain ⟨c, hc, h⟩ := Option.bind_eq_some_iff.1 h
 split at h
 case isFalse => cases h
 rename_i hif
 obtain ⟨b1, b2, hl, ha1, ha2, hc1, hc2⟩ := hif
 simp only [Option.some.injEq, Prod.mk.injEq] at h
 obtain ⟨rfl, rfl, rfl, rfl⟩ := h
 obtain ⟨m, rfl⟩ := Int.eq_ofNat_of_zero_le (show 0 ≤ a0_3 by omega)
 have HR := Aside0.mk hr1_2
 have HA := Aside0.mk ha
 have HC := Aside0.mk hc
 have HL := Aside0.mk hl
 clear ha hc hr1_2 hr1_3 hc1_3 hl
 have hsz3 : (Try.prog.info? 3).map (·.size) = some 1 := by kernel_rfl
 have HSZ := Aside0.mk hsz3
 clear hsz3
 have hsz3 : (((w.alloc (.cells #[.int .i64 a0_0, .int .i64 a0_1, .int .i64 a0_2, .int .i64 (m : Int)] 23)).alloc (.cells #[.int .i64 a1_0, .int .i64 a1_1, .slice A1_2 l1_2.length c1_2, .slice A1_3 l1_3.length c1_3] 27)).alloc (.cells #[.int .i64 0, .int .i64 0, .slice none 0 0, .slice none 0 0] 27)).heap.size = w.heap.size + 1 + 1 + 1 := by simp
 have ho0 := own_made' (((w.alloc (.cells #[.int .i64 a0_0, .int .i64 a0_1, .int .i64 a0_2, .int .i64 (m : Int)] 23)).alloc (.cells #[.int .i64 a1_0, .int .i64 a1_1, .slice A1_2 l1_2.length c1_2, .slice A1_3 l1_3.length c1_3] 27)).alloc (.cells #[.int .i64 0, .int .i64 0, .slice none 0 0, .slice none 0 0] 27)) w.heap.size 3 .i64 m (by rw [hsz3]; omega) (by omega)
 rw [hsz3] at ho0
 have HO0 := Aside0.mk (Kd.R_alloc (Kd.R_of_own (enc := Value.int .i64) (h1 := fun _ => rfl) (ok := fun k_ => k_ = w.heap.size + 1 + 1 + 1) ho0 (fun k hk => by simpa [Value.ownBlock] using hk.symm)) (.cells #[.slice (some ⟨w.heap.size + 1 + 1 + 1, 0, none⟩) m m] 24))
 clear ho0
 have HB0 := Aside0.mk (((((Below.refl w.heap.size w).alloc (Nat.le_refl _) (.cells #[.int .i64 a0_0, .int .i64 a0_1, .int .i64 a0_2, .int .i64 (m : Int)] 23)).alloc (by simp) (.cells #[.int .i64 a1_0, .int .i64 a1_1, .slice A1_2 l1_2.length c1_2, .slice A1_3 l1_3.length c1_3] 27)).alloc (by simp; omega) (.cells #[.int .i64 0, .int .i64 0, .slice none 0 0, .slice none 0 0] 27)).alloc (by rw [hsz3]; omega) (.cells (madeCells #[.int .i64 0] m) 3))
 have HB5 := Aside0.mk (HB0.out.alloc HB0.out.size (.cells #[.slice (some ⟨w.heap.size + 1 + 1 + 1, 0, none⟩) m m] 24))
 have HR5 := Aside0.mk (Kd.C_below HR.out HB5.out)
 have K5 := Aside0.mk (show (((((w.alloc (.cells #[.int .i64 a0_0, .int .i64 a0_1, .int .i64 a0_2, .int .i64 (m : Int)] 23)).alloc (.cells #[.int .i64 a1_0, .int .i64 a1_1, .slice A1_2 l1_2.length c1_2, .slice A1_3 l1_3.length c1_3] 27)).alloc (.cells #[.int .i64 0, .int .i64 0, .slice none 0 0, .slice none 0 0] 27)).alloc (.cells (madeCells #[.int .i64 0] m) 3)).alloc (.cells #[.slice (some ⟨w.heap.size + 1 + 1 + 1, 0, none⟩) m m] 24)).heap[w.heap.size]? = some (.cells #[.int .i64 a0_0, .int .i64 a0_1, .int .i64 a0_2, .int .i64 (m : Int)] 23 (0, 0)) ∧ (((((w.alloc (.cells #[.int .i64 a0_0, .int .i64 a0_1, .int .i64 a0_2, .int .i64 (m : Int)] 23)).alloc (.cells #[.int .i64 a1_0, .int .i64 a1_1, .slice A1_2 l1_2.length c1_2, .slice A1_3 l1_3.length c1_3] 27)).alloc (.cells #[.int .i64 0, .int .i64 0, .slice none 0 0, .slice none 0 0] 27)).alloc (.cells (madeCells #[.int .i64 0] m) 3)).alloc (.cells #[.slice (some ⟨w.heap.size + 1 + 1 + 1, 0, none⟩) m m] 24)).heap[w.heap.size + 1]? = some (.cells #[.int .i64 a1_0, .int .i64 a1_1, .slice A1_2 l1_2.length c1_2, .slice A1_3 l1_3.length c1_3] 27 (0, 0)) ∧ (((((w.alloc (.cells #[.int .i64 a0_0, .int .i64 a0_1, .int .i64 a0_2, .int .i64 (m : Int)] 23)).alloc (.cells #[.int .i64 a1_0, .int .i64 a1_1, .slice A1_2 l1_2.length c1_2, .slice A1_3 l1_3.length c1_3] 27)).alloc (.cells #[.int .i64 0, .int .i64 0, .slice none 0 0, .slice none 0 0] 27)).alloc (.cells (madeCells #[.int .i64 0] m) 3)).alloc (.cells #[.slice (some ⟨w.heap.size + 1 + 1 + 1, 0, none⟩) m m] 24)).heap[w.heap.size + 2]? = some (.cells #[.int .i64 0, .int .i64 0, .slice none 0 0, .slice none 0 0] 27 (0, 0)) ∧ (((((w.alloc (.cells #[.int .i64 a0_0, .int .i64 a0_1, .int .i64 a0_2, .int .i64 (m : Int)] 23)).alloc (.cells #[.int .i64 a1_0, .int .i64 a1_1, .slice A1_2 l1_2.length c1_2, .slice A1_3 l1_3.length c1_3] 27)).alloc (.cells #[.int .i64 0, .int .i64 0, .slice none 0 0, .slice none 0 0] 27)).alloc (.cells (madeCells #[.int .i64 0] m) 3)).alloc (.cells #[.slice (some ⟨w.heap.size + 1 + 1 + 1, 0, none⟩) m m] 24)).heap[w.heap.size + 1 + 1 + 1 + 1]? = some (.cells #[.slice (some ⟨w.heap.size + 1 + 1 + 1, 0, none⟩) m m] 24 (0, 0)) from ⟨blk_alloc (blk_alloc (blk_alloc (blk_alloc (blk_at rfl _ _) _) _) _) _, blk_alloc (blk_alloc (blk_alloc (blk_at (by simp) _ _) _) _) _, blk_alloc (blk_alloc (blk_at (by simp) _ _) _) _, blk_at (by simp) _ _⟩)
 clear hsz3
 have hmk := print_make (P := Try.prog) 24 3 .i64 8 Try.underlying24 info3 (by decide) m (by omega)
 refine (callsIn_wide (n := 5)).1 ?_
 refine callsIn_of_wp_marks Try.func23 rfl trivial ?_ rfl
 simp only [Try.ntmps23, List.size_toArray, List.length_cons, List.length_nil, Nat.reduceAdd, Nat.reduceSub, Array.replicate_succ, Array.replicate_zero, List.push_toArray, List.append_toArray, List.nil_append, List.cons_append]
 refine wpIn_wide.2 ?_
 have hbase : (l1_2.take (min l1_2.length (List.replicate m (0 : Int)).length) ++ (List.replicate m (0 : Int)).drop (min l1_2.length (List.replicate m (0 : Int)).length)) = baseL (m : Int) l1_2 := by
  unfold baseL
  rw [List.length_replicate]
  rcases HL.out with h0 | h0
  ·rw [if_pos h0, h0]; simp [List.length_eq_zero_iff.1 h0]
  ·rw [if_neg (by omega), show min l1_2.length m = m by omega, List.take_of_length_le (by omega), List.drop_eq_nil_of_le (by simp)]; simp
 have HBASE := Aside0.mk hbase
 clear hbase
 go_wp2_with ((with_reducible refine gate_builtin (b := .copy) (xs := #[.tmp 12, .tmp 14]) rfl ?_); refine Kd.R_copy (enc := Value.int .i64) (h1 := fun _ => rfl) 0 (w0 := w) w.heap.size rfl (.tmp 12) (.tmp 14) 24 24 3 rfl Try.underlying24 HSZ.out (.slice (some ⟨w.heap.size + 1 + 1 + 1, 0, none⟩) m m) (List.replicate m 0) l1_2 A1_2 l1_2.length c1_2 (fun k_ => k_ = w.heap.size + 1 + 1 + 1) rfl rfl HO0.out HR5.out HB5.out HB5.out.size ?_; intro w1 ho hb hg; rw [HBASE.out] at ho; have HO := Aside0.mk ho; have HB := Aside0.mk hb; have KB := fun (k : Nat) (o : Obj) (hk : _ = some o) (hne : k ≠ w.heap.size + 1 + 1 + 1) => (hg.block k (Array.getElem?_eq_some_iff.1 hk).1 (fun e => hne (by simpa [Value.ownBlock] using e))).trans hk; have KP := Aside0.mk (KB _ _ K5.out.1 (by omega)); have KC := Aside0.mk (KB _ _ K5.out.2.1 (by omega)); have KR := Aside0.mk (KB _ _ K5.out.2.2.1 (by omega)); have KV := Aside0.mk (KB _ _ K5.out.2.2.2 (by omega)); clear KB; obtain ⟨q0, q1, q2, q3⟩ := ce4 KP; obtain ⟨z0, _, _, _⟩ := ce4 KC; clear ho hb hg)
 refine (gone_calls _ _ _ _ _ _ _).mono ?_
 rintro e w2 ⟨rfl, rfl⟩
 clear q0 q1 q2 q3 z0 hmk
 have hlt : w.heap.size + 1 + 1 + 1 + 1 < w1.heap.size := blk_lt KV.out
 have HLT := Aside0.mk hlt
 clear hlt
 go_wp2
 have hr0 : RoundI w (w.heap.size + 1 + 1 + 1) m (.cells #[.int .i64 0, .int .i64 0, .slice none 0 0, .slice none 0 0] 27 (0, 0)) (zeroL (baseL (m : Int) l1_2) []) (((w1.alloc (.cells #[.int .i64 a0_0, .int .i64 a0_1, .int .i64 a0_2, .int .i64 (m : Int)] 23)).alloc (.cells #[.int .i64 a1_0] 3)).alloc (.cells #[.int .i64 a2] 3)) := ⟨Kd.R_alloc (Kd.R_alloc (Kd.R_alloc HO.out _) _) _, blk_alloc (blk_alloc (blk_alloc KV.out _) _) _, blk_alloc (blk_alloc (blk_alloc KR.out _) _) _, ((HB.out.alloc HB.out.size _).alloc (by have := HB.out.size; simp; omega) _).alloc (by have := HB.out.size; simp; omega) _⟩
 have HR0 := Aside0.mk hr0
 clear hr0 HO HB KP KC KR K5 HO0 HB0 HB5 HR5
 refine (wpIn_wide (n := 5)).1 ?_
 refine wpIn_rangeFunc_ownF (α := Pl (m : Int)) rfl (by omega) (gf := 39) (lb := #[.pointer (some ⟨w1.heap.size, 0, none⟩), .pointer (some ⟨w1.heap.size + 1, 0, none⟩), .pointer (some ⟨w1.heap.size + 1 + 1, 0, none⟩)]) rfl trivial (enters_of Try.func39 (by kernel_rfl) rfl)
  (gone1_stops 4 (by omega) w1.heap.size (w1.heap.size + 1) (w1.heap.size + 1 + 1) a0_0 a0_1 a0_2 (m : Int) a1_0 a2 a c _ (blk_alloc (blk_alloc (blk_new _ _) _) _) (blk_alloc (blk_at (by simp) _ _) _) (blk_at (by simp) _ _) HA.out HC.out b1 b2 ha1 ha2 hc1 hc2)
  (fun h k x => k (h x)) (fun W l o o' hl _ _ _ hx => (World.putObj_heap_other (by simp at hl; omega)).trans hx) (Below.refl _ _) (fun _ => rfl)
  (RI w (w.heap.size + 1 + 1 + 1) m (.cells #[.int .i64 0, .int .i64 0, .slice none 0 0, .slice none 0 0] 27 (0, 0)) (baseL (m : Int) l1_2) (m : Int))
  (fun _ _ _ => False)
  (RI.own (by have := HLT.out; simp; omega) (by have := HLT.out; simp; omega))
  (fun _ _ _ _ _ hs _ _ => hs)
  HR0.out
  (fun x => { tmps := #[.agg #[.int .i64 a0_0, .int .i64 a0_1, .int .i64 a0_2, .int .i64 (m : Int)], .agg #[.int .i64 a1_0, .int .i64 a1_1, .slice A1_2 l1_2.length c1_2, .slice A1_3 l1_3.length c1_3], .int .i64 a2, .pointer (some ⟨w.heap.size, 0, none⟩), .pointer (some ⟨w.heap.size + 1, 0, none⟩), undef, .pointer (some ⟨w.heap.size + 1 + 1, 0, none⟩), .pointer (some ⟨w.heap.size + 1 + 1 + 1 + 1, 0, none⟩), .int .i64 x.1, .pointer (some ⟨w.heap.size, 3, none⟩), .int .i64 (m : Int), .slice (some ⟨w.heap.size + 1 + 1 + 1, 0, none⟩) m m, .slice (some ⟨w.heap.size + 1 + 1 + 1, 0, none⟩) m m, .pointer (some ⟨w.heap.size + 1, 2, none⟩), .slice A1_2 l1_2.length c1_2, .int .i64 ((min l1_2.length m : Nat) : Int), .agg #[.int .i64 a0_0, .int .i64 a0_1, .int .i64 a0_2, .int .i64 (m : Int)], .pointer (some ⟨w.heap.size + 1, 0, none⟩), .int .i64 a1_0, .int .i64 a2, .func (.func 39) #[] #[.pointer (some ⟨w1.heap.size, 0, none⟩), .pointer (some ⟨w1.heap.size + 1, 0, none⟩), .pointer (some ⟨w1.heap.size + 1 + 1, 0, none⟩)], .int .i64 x.1, undef, undef, undef, undef, undef, undef], defers := [] }) ?assign ?body ?done ?stop
 case assign =>
  intro l x W K hK
  gi_wp2
  exact hK
 case body =>
  rintro l pre x W hi _
  have HI := Aside0.mk (show RoundI _ _ _ _ _ W from hi)
  obtain ⟨x, x0, x1⟩ := x
  obtain ⟨c0, f0⟩ := HI.out.cell x x0 x1
  have v0 : W.cell? ⟨w.heap.size + 1 + 1 + 1 + 1, 0, none⟩ = some (.slice (some ⟨w.heap.size + 1 + 1 + 1, 0, none⟩) m m) := by rw [cell_of_row W _ _ _ _ (0, 0) HI.out.var]; rfl
  clear hi
  gi_wp2
  refine ⟨KeepsOthers.setCell _ _ _, fun hx => (Below.heap_setCell _ _ _ _ (by have := HLT.out; show w1.heap.size ≠ w.heap.size + 1 + 1 + 1; omega)).trans hx, ?_⟩
  unfold RI
  rw [List.map_append, List.map_singleton, zeroL_snoc]
  exact HI.out.set (by omega) x x0 x1
 case done =>
  rintro D ys W hD rfl hi hK
  have HI := Aside0.mk (show RoundI _ _ _ _ _ W from hi)
  have v0 : W.cell? ⟨w.heap.size + 1 + 1 + 1 + 1, 0, none⟩ = some (.slice (some ⟨w.heap.size + 1 + 1 + 1, 0, none⟩) m m) := by rw [cell_of_row W _ _ _ _ (0, 0) HI.out.var]; rfl
  have KR := Aside0.mk HI.out.res
  obtain ⟨q0, q1, q2, q3⟩ := ce4 KR
  obtain ⟨f0, f1, f2, f3⟩ := fr4 KR
  clear hi
  gi_wp2
  go_wp2
  have hDlt : w.heap.size + 1 + 1 + 1 + 1 < D := by have := HLT.out; simp at hD; omega
  have hb0 : ((((W.setCell ⟨w.heap.size + 1 + 1, 0, none⟩ (.int .i64 a2)).setCell ⟨w.heap.size + 1 + 1, 1, none⟩ (.int .i64 0)).setCell ⟨w.heap.size + 1 + 1, 2, none⟩ (.slice (some ⟨w.heap.size + 1 + 1 + 1, 0, none⟩) m m)).setCell ⟨w.heap.size + 1 + 1, 3, none⟩ (.slice none 0 0)).heap[w.heap.size + 1 + 1]? = some (.cells #[.int .i64 a2, .int .i64 0, .slice (some ⟨w.heap.size + 1 + 1 + 1, 0, none⟩) m m, .slice none 0 0] 27 (0, 0)) := blk_put (blk_put (blk_put (blk_put (show W.heap[w.heap.size + 1 + 1]? = _ from HI.out.res) 0 _ rfl) 1 _ rfl) 2 _ rfl) 3 _ rfl
  have far : ∀ k, k ≠ w.heap.size + 1 + 1 → ((((W.setCell ⟨w.heap.size + 1 + 1, 0, none⟩ (.int .i64 a2)).setCell ⟨w.heap.size + 1 + 1, 1, none⟩ (.int .i64 0)).setCell ⟨w.heap.size + 1 + 1, 2, none⟩ (.slice (some ⟨w.heap.size + 1 + 1 + 1, 0, none⟩) m m)).setCell ⟨w.heap.size + 1 + 1, 3, none⟩ (.slice none 0 0)).heap[k]? = W.heap[k]? := fun k hk => (Below.heap_setCell _ _ _ k hk).trans ((Below.heap_setCell _ _ _ k hk).trans ((Below.heap_setCell _ _ _ k hk).trans (Below.heap_setCell _ _ _ k hk)))
  have hK' : ((((W.setCell ⟨w.heap.size + 1 + 1, 0, none⟩ (.int .i64 a2)).setCell ⟨w.heap.size + 1 + 1, 1, none⟩ (.int .i64 0)).setCell ⟨w.heap.size + 1 + 1, 2, none⟩ (.slice (some ⟨w.heap.size + 1 + 1 + 1, 0, none⟩) m m)).setCell ⟨w.heap.size + 1 + 1, 3, none⟩ (.slice none 0 0)).heap[D]? = some (.deferred (some [])) := (far D (by omega)).trans hK
  have hbel : Below w.heap.size w ((((W.setCell ⟨w.heap.size + 1 + 1, 0, none⟩ (.int .i64 a2)).setCell ⟨w.heap.size + 1 + 1, 1, none⟩ (.int .i64 0)).setCell ⟨w.heap.size + 1 + 1, 2, none⟩ (.slice (some ⟨w.heap.size + 1 + 1 + 1, 0, none⟩) m m)).setCell ⟨w.heap.size + 1 + 1, 3, none⟩ (.slice none 0 0)) := (((HI.out.below.setCell (p := ⟨w.heap.size + 1 + 1, 0, none⟩) (by show w.heap.size ≤ w.heap.size + 1 + 1; omega) _).setCell (p := ⟨w.heap.size + 1 + 1, 1, none⟩) (by show w.heap.size ≤ w.heap.size + 1 + 1; omega) _).setCell (p := ⟨w.heap.size + 1 + 1, 2, none⟩) (by show w.heap.size ≤ w.heap.size + 1 + 1; omega) _).setCell (p := ⟨w.heap.size + 1 + 1, 3, none⟩) (by show w.heap.size ≤ w.heap.size + 1 + 1; omega) _
  refine ⟨by simp, .inl ⟨_, _, rfl, run_takeDeferred hK', ?_⟩⟩
  refine ⟨_, results_cell_row rfl _ _ (w.heap.size + 1 + 1) 27 _ (0, 0) _ rfl ((World.putObj_heap_other (by omega)).trans hb0) Try.underlying27 rfl (by kernel_rfl), _, _, rfl, ?_, Kd.R_nil _ _ _ _ _, hbel.trans (belowK_b (w := w) (Nat.le_refl _) _ D _ _ (by omega) hK' rfl rfl)⟩
  have hrow := HI.out.row
  rw [show (upS (m : Int) (a + 1) b1 (by omega) (goneN (m : Int) (a + 1) c)).map Subtype.val = goneL (m : Int) (a + 1) c from upS_val _ _ _ _ _] at hrow
  exact Kd.R_mono (Kd.R_step hrow (fun k hk _ => (World.putObj_heap_other (by omega)).trans (far k (by omega)))) (fun _ _ => trivial)
 case stop =>
  rintro D c pre W _ _ h _
  exact h.elim

end Go.Proofs.Ytalcmlgkdkbbaaa.Q
