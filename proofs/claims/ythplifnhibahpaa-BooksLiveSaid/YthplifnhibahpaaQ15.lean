-- Laid by wip/tools/hprint.py, a program of this repo, over the kit's print; not a text of print.sh.
import Derived.Test.YthplifnhibahpaaQ0
import Derived.Test.YthplifnhibahpaaQ4
import Derived.Test.YthplifnhibahpaaQ9
import Derived.Test.YthplifnhibahpaaQ14
namespace Go.Proofs.Ythplifnhibahpaa.Q
open Go.RowKit Go.Proofs.Ythplifnhibahpaa.Zip Go.Proofs.YthplifnhibahpaaW.PrintWords Go.Proofs.YthplifnhibahpaaW.PrintLast Go.Proofs.YthplifnhibahpaaW.PrintMore
attribute [local go_sem] max2_int min2_int max_two min_two max_three min_three max_four min_four   -- for this text's walks alone
set_option linter.unusedVariables false
set_option linter.unusedSimpArgs false

/-! ### books_Set: given by hand -/
set_option maxHeartbeats 4000000 in
theorem set1_calls (W : World) (g gb o : Nat) (hne : gb ≠ g) (b : Bool) (q0 q1 q2 q3 v p0 p1 p2 p3 : Int)
    (h0 : W.cell? ⟨g, o, none⟩ = some (.bool b)) (h1 : W.cell? ⟨g, o + 1, none⟩ = some (.int .i64 q0)) (h2 : W.cell? ⟨g, o + 2, none⟩ = some (.int .i64 q1)) (h3 : W.cell? ⟨g, o + 3, none⟩ = some (.int .i64 q2)) (h4 : W.cell? ⟨g, o + 4, none⟩ = some (.int .i64 q3)) (h5 : W.cell? ⟨g, o + 5, none⟩ = some (.int .i64 v))
    (f0 : W.frozen? ⟨g, o, none⟩ = false) (f1 : W.frozen? ⟨g, o + 1, none⟩ = false) (f2 : W.frozen? ⟨g, o + 2, none⟩ = false) (f3 : W.frozen? ⟨g, o + 3, none⟩ = false) (f4 : W.frozen? ⟨g, o + 4, none⟩ = false) (f5 : W.frozen? ⟨g, o + 5, none⟩ = false)
    (c0 : W.cell? ⟨gb, 0, none⟩ = some (.int .i64 p0)) (c1 : W.cell? ⟨gb, 1, none⟩ = some (.int .i64 p1)) (c2 : W.cell? ⟨gb, 2, none⟩ = some (.int .i64 p2)) (c3 : W.cell? ⟨gb, 3, none⟩ = some (.int .i64 p3)) :
    Calls Try.prog 29 #[.pointer (some ⟨g, o, none⟩), .pointer (some ⟨gb, 0, none⟩)] W fun e w' => e = .returned undef ∧ w' = (W.setCells g o [.bool true, .int .i64 p0, .int .i64 p1, .int .i64 p2, .int .i64 p3, .int .i64 (wrap64 (v + 1))]).drew := by
  go_enter Try.func29, Try.ntmps29
  go_wp2
  go_region
  go_wp2
  go_end0
  refine ⟨rfl, ?_⟩
  simp only [World.setCells]
theorem frozen_of_cell {W : World} {g : Nat} {cur : Array Value} {t : TypeId} (hh : W.heap[g]? = some (.cells cur t (0, 0))) (o : Nat) : W.frozen? ⟨g, o, none⟩ = false := blk_frozen hh o
/-- An element of a row of the call's own, put anew whole. -/
theorem put_row {W : World} {base : Nat} {g n cap : Nat} {xs : List S43} (HO : Kd.R k43 43 W base (fun _ => True) (.slice (some ⟨g, 0, none⟩) n cap) xs) (i : Int) (h0 : 0 ≤ i) (h1 : i < n) (x : S43) :
    Kd.R k43 43 (W.setCells g (i.toNat * 6) [.bool x.f0, .int .i64 x.f1.f0, .int .i64 x.f1.f1, .int .i64 x.f1.f2, .int .i64 x.f1.f3, .int .i64 x.f2]) base (fun _ => True) (.slice (some ⟨g, 0, none⟩) n cap) (xs.set i.toNat x) ∧ W.grownBy (W.setCells g (i.toNat * 6) [.bool x.f0, .int .i64 x.f1.f0, .int .i64 x.f1.f1, .int .i64 x.f1.f2, .int .i64 x.f1.f3, .int .i64 x.f2]) (some g) := by
  have hr := Kd.R_reads' HO
  obtain ⟨ad, c, e, hcl, hK, hc⟩ := Kd.C_get hr.2.2 z43 i h0 (by omega)
  cases e
  have := Kd.R_seg (okp := fun k => k ≠ g) (j := 0) (seg := [.bool x.f0, .int .i64 x.f1.f0, .int .i64 x.f1.f1, .int .i64 x.f1.f2, .int .i64 x.f1.f3, .int .i64 x.f2]) (x' := x) HO i h0 h1 hcl (fun j u hj => by have := hc j u hj; rw [add_plain] at this; exact this) (by show 0 + 6 ≤ 6; omega) (by
    have hl : c.length = 6 := hcl
    rw [show c.take 0 = [] from rfl, List.drop_of_length_le (by rw [hl]; simp)]
    exact k43_mkM W base _ x) (fun k hk => ⟨trivial, hk⟩)
  exact this
theorem row_form {W : World} {base : Nat} {v : Value} {xs : List S43} (ho : Kd.R k43 43 W base (fun _ => True) v xs) (hp : 0 < xs.length) : ∃ g cap, v = .slice (some ⟨g, 0, none⟩) xs.length cap ∧ base ≤ g ∧ g < W.heap.size ∧ ∃ cur, W.heap[g]? = some (.cells cur 43 (0, 0)) := by
  obtain ⟨inner, hown⟩ := Kd.R_own ho
  obtain ⟨g, cap, rfl, _, _⟩ := hown.form hp
  exact ⟨g, cap, rfl, own_base hown g rfl, own_lt hown g rfl, own_typed hown g rfl⟩
set_option maxHeartbeats 4000000 in
theorem change_set (A0 : Option Addr) (c0 : Nat) (l0 : List S43) (i : Int) (h0 : 0 ≤ i) (h1 : i < (l0.length : Int)) (l : List S43) (gb : Nat) (p0 p1 p2 p3 : Int) (w : World) (hr0 : Kd.C k43 w A0 l0.length l0) (hc0 : l0.length ≤ c0) (h : api_Book_34.f l0 = some l) (hgb : gb < w.heap.size)
    (b0 : w.cell? ⟨gb, 0, none⟩ = some (.int .i64 p0)) (b1 : w.cell? ⟨gb, 1, none⟩ = some (.int .i64 p1)) (b2 : w.cell? ⟨gb, 2, none⟩ = some (.int .i64 p2)) (b3 : w.cell? ⟨gb, 3, none⟩ = some (.int .i64 p3)) :
    Calls Try.prog 28 #[.slice A0 l0.length c0, .int .i64 i, .func (.func 29) #[] #[.pointer (some ⟨gb, 0, none⟩)]] w fun e w' => ∃ (g cap : Nat), e = .returned (.slice (some ⟨g, 0, none⟩) l0.length cap) ∧ Kd.R k43 43 w' w.heap.size (fun _ => True) (.slice (some ⟨g, 0, none⟩) l0.length cap) (l0.set i.toNat ⟨true, ⟨p0, p1, p2, p3⟩, wrap64 ((rd_T43 l0 i).f2 + 1)⟩) ∧ Below w.heap.size w w' := by
  have hl : l = l0 := by
    unfold api_Book_34.f at h
    simp only [Option.bind_some, List.nil_append] at h
    split at h
    · exact (Option.some.inj h).symm
    · cases h
  subst hl
  have H := Aside0.mk h
  have HR := Aside0.mk hr0
  have HC := Aside0.mk hc0
  have B := Aside0.mk (show w.cell? ⟨gb, 0, none⟩ = some (.int .i64 p0) ∧ w.cell? ⟨gb, 1, none⟩ = some (.int .i64 p1) ∧ w.cell? ⟨gb, 2, none⟩ = some (.int .i64 p2) ∧ w.cell? ⟨gb, 3, none⟩ = some (.int .i64 p3) from ⟨b0, b1, b2, b3⟩)
  clear h hr0 hc0 b0 b1 b2 b3
  have h1' : decide (i < (l.length : Int)) = true := decide_eq_true h1
  go_enter Try.func28, Try.ntmps28
  go_wp2_with (first | (go_at_call 34; refine (api_Book_34.calls _ _ _ _ _ HR.out HC.out H.out).mono ?_; rintro e w1 ⟨v, rfl, ho, hb⟩; obtain ⟨g, cap, rfl, hbg, hg, cur, hcur⟩ := row_form ho (by omega); obtain ⟨ad, x0, x1, x2, x3, x4, x5, x6⟩ := at_T43 (Kd.R_reads' ho).2.2 i h0 h1; cases x0; rw [add_plain] at x1 x2 x3 x4 x5 x6; have HO := Aside0.mk ho; have HB := Aside0.mk hb; have HCUR := Aside0.mk hcur; clear ho hb hcur))
  refine (set1_calls w1 g gb (i.toNat * 6) (by omega) _ _ _ _ _ _ p0 p1 p2 p3 x1 x2 x3 x4 x5 x6 (frozen_of_cell HCUR.out _) (frozen_of_cell HCUR.out _) (frozen_of_cell HCUR.out _) (frozen_of_cell HCUR.out _) (frozen_of_cell HCUR.out _) (frozen_of_cell HCUR.out _) (pw_cell_below HB.out B.out.1) (pw_cell_below HB.out B.out.2.1) (pw_cell_below HB.out B.out.2.2.1) (pw_cell_below HB.out B.out.2.2.2)).mono ?_
  rintro e w2 ⟨rfl, rfl⟩
  clear x1 x2 x3 x4 x5 x6
  have P := put_row HO.out i h0 h1 ⟨true, ⟨p0, p1, p2, p3⟩, wrap64 ((rd_T43 l i).f2 + 1)⟩
  obtain ⟨W, hW⟩ : ∃ W, W = w1.setCells g (i.toNat * 6) [.bool true, .int .i64 p0, .int .i64 p1, .int .i64 p2, .int .i64 p3, .int .i64 (wrap64 ((rd_T43 l i).f2 + 1))] := ⟨_, rfl⟩
  rw [← hW] at P ⊢
  have P' := Aside0.mk P
  clear P hW
  go_wp2
  go_ret
  exact ⟨g, cap, rfl, Kd.R_drew P'.out.1, (HB.out.grown P'.out.2 HB.out.size (fun k hk => by injection hk with hk; omega)).drew⟩
def books_Set.f (k : Nat) (l0 : List S43) (a1 a2_0 a2_1 a2_2 a2_3 : Int) : Option (List S43 × Int × Int) := (books_there.f k l0 a1).bind fun t => if t = true then ((policy_Check.f a2_0 a2_1 a2_2 a2_3).bind fun e => if e = 0 then (if 0 ≤ a1 then (if a1 < (l0.length : Int) then (if (rd_T43 l0 a1).f2 = 1073741824 then (some (l0, 0, 4)) else ((api_Book_34.f l0).bind fun l => (some (l0.set a1.toNat ⟨true, ⟨a2_0, a2_1, a2_2, a2_3⟩, wrap64 ((rd_T43 l0 a1).f2 + 1)⟩, wrap64 ((rd_T43 l0 a1).f2 + 1), 0)))) else none) else none) else (some (l0, 0, 1))) else (some (l0, 0, 1))
theorem books_Set.mono : ∀ a0 a1 a2 a3 a4 a5 k, LeO (books_Set.f k a0 a1 a2 a3 a4 a5) (books_Set.f (k + 1) a0 a1 a2 a3 a4 a5) := by
  intro a0 a1 a2 a3 a4 a5 k
  unfold books_Set.f
  exact LeO.bind (books_there.mono _ _ _) (fun _ => LeO.refl _)
/-- A box of a policy, behind what came since. -/
theorem set_box {w w1 : World} {a b c d : Value} {t : TypeId} (hb : Below (w.alloc (.cells #[a, b, c, d] t)).heap.size (w.alloc (.cells #[a, b, c, d] t)) w1) :
    w1.cell? ⟨w.heap.size, 0, none⟩ = some a ∧ w1.cell? ⟨w.heap.size, 1, none⟩ = some b ∧ w1.cell? ⟨w.heap.size, 2, none⟩ = some c ∧ w1.cell? ⟨w.heap.size, 3, none⟩ = some d ∧ Below w.heap.size w w1 ∧ w.heap.size < w1.heap.size := by
  refine ⟨?_, ?_, ?_, ?_, ((Below.refl _ _).alloc (Nat.le_refl _) _).trans (hb.mono (by simp)), by have := hb.size; simp at this; omega⟩
  all_goals exact pw_cell_below hb (by go_simp)
theorem rd_set (i : Int) (l : List S43) (x : S43) (h0 : 0 ≤ i) (h1 : i < (l.length : Int)) : rd_T43 (l.set i.toNat x) i = x := by
  unfold rd_T43
  rw [List.getD_eq_getElem?_getD, List.getElem?_set_self (by omega)]; rfl
set_option maxHeartbeats 8000000 in
theorem books_Set.calls (k : Nat) (P0_ : Nat → Prop) (A0 : Option Addr) (c0 : Nat) (l0 : List S43) (a1 : Int) (a2_0 : Int) (a2_1 : Int) (a2_2 : Int) (a2_3 : Int) (r1 : List S43) (r2 : Int) (r3 : Int) (w : World) (hs0 : Kd.V k43 43 w w.heap.size (fun k_ => P0_ k_) (.slice A0 l0.length c0) l0) (h : books_Set.f k l0 a1 a2_0 a2_1 a2_2 a2_3 = some (r1, r2, r3)) :
    Calls Try.prog 19 #[.slice A0 l0.length c0, .int .i64 a1, .agg #[.int .i64 a2_0, .int .i64 a2_1, .int .i64 a2_2, .int .i64 a2_3]] w fun e w' => ∃ v0_ : Value, e = .returned (.tuple #[v0_, .int .i64 r2, .int .i64 r3]) ∧ Kd.V k43 43 w' w.heap.size (fun k_ => (P0_ k_ ∨ w.heap.size ≤ k_)) v0_ r1 ∧ Below w.heap.size w w' := by
  have HS := Aside0.mk hs0
  have HC := Aside0.mk (Kd.V_reads' hs0).2.1
  clear hs0
  unfold books_Set.f at h
  obtain ⟨t, ht, h⟩ := Option.bind_eq_some_iff.1 h
  have HT := Aside0.mk ht
  clear ht
  cases t
  · simp only [Bool.false_eq_true, if_false, Option.some.injEq, Prod.mk.injEq] at h
    obtain ⟨rfl, rfl, rfl⟩ := h
    go_enter Try.func19, Try.ntmps19
    go_wp2_with (first | (go_at_call 24; refine (books_there.calls k A0 c0 l0 a1 false _ (Kd.V_reads' (Kd.V_alloc HS.out _)).2.2 HC.out HT.out).mono ?_; rintro e w1 ⟨rfl, hb⟩; have HB := Aside0.mk hb; clear hb))
    go_ret3
    exact ⟨_, rfl, Kd.V_mono (Kd.V_below (Kd.V_alloc HS.out _) HB.out) (fun _ hk => .inl hk), (set_box HB.out).2.2.2.2.1⟩
  simp only [if_true] at h
  obtain ⟨e0, he, h⟩ := Option.bind_eq_some_iff.1 h
  have HE := Aside0.mk he
  clear he
  by_cases hz : e0 = 0
  case neg =>
    rw [if_neg hz] at h
    simp only [Option.some.injEq, Prod.mk.injEq] at h
    obtain ⟨rfl, rfl, rfl⟩ := h
    have hz' : (e0 != 0) = true := by simpa using hz
    have hz2 : (e0 == 0) = false := by simpa using hz
    go_enter Try.func19, Try.ntmps19
    go_wp2_with (first | (go_at_call 24; refine (books_there.calls k A0 c0 l0 a1 true _ (Kd.V_reads' (Kd.V_alloc HS.out _)).2.2 HC.out HT.out).mono ?_; rintro e w1 ⟨rfl, hb⟩; have HB := Aside0.mk hb; clear hb; obtain ⟨b0, b1, b2, b3, _, _⟩ := set_box HB.out) | (go_at_call 27; refine (policy_Check.calls _ _ _ _ _ _ HE.out).mono ?_; rintro e w2 ⟨rfl, hb⟩; have HB2 := Aside0.mk hb; clear hb))
    go_ret3
    exact ⟨_, rfl, Kd.V_mono (Kd.V_below (Kd.V_below (Kd.V_alloc HS.out _) HB.out) HB2.out) (fun _ hk => .inl hk), (set_box HB.out).2.2.2.2.1.trans (HB2.out.mono (Nat.le_of_lt (set_box HB.out).2.2.2.2.2))⟩
  subst hz
  rw [if_pos rfl] at h
  by_cases h0 : 0 ≤ a1
  case neg => rw [if_neg h0] at h; cases h
  by_cases h1 : a1 < (l0.length : Int)
  case neg => rw [if_pos h0, if_neg h1] at h; cases h
  rw [if_pos h0, if_pos h1] at h
  have h1' : decide (a1 < (l0.length : Int)) = true := decide_eq_true h1
  obtain ⟨ad, x0, y0, y1, y2, y3, y4, x5⟩ := at_T43 (Kd.V_reads' HS.out).2.2 a1 h0 h1
  clear y0 y1 y2 y3 y4
  subst x0
  have X := Aside0.mk x5
  clear x5
  by_cases hv : (rd_T43 l0 a1).f2 = 1073741824
  · rw [if_pos hv] at h
    simp only [Option.some.injEq, Prod.mk.injEq] at h
    obtain ⟨rfl, rfl, rfl⟩ := h
    have hv1 : ((rd_T43 l0 a1).f2 == 1073741824) = true := by simpa using hv
    clear hv
    go_enter Try.func19, Try.ntmps19
    go_wp2_with (first | (go_at_call 24; refine (books_there.calls k (some ad) c0 l0 a1 true _ (Kd.V_reads' (Kd.V_alloc HS.out _)).2.2 HC.out HT.out).mono ?_; rintro e w1 ⟨rfl, hb⟩; have HB := Aside0.mk hb; clear hb; obtain ⟨b0, b1, b2, b3, _, _⟩ := set_box HB.out) | (go_at_call 27; refine (policy_Check.calls _ _ _ _ _ _ HE.out).mono ?_; rintro e w2 ⟨rfl, hb⟩; have HB2 := Aside0.mk hb; clear hb; clear b0 b1 b2 b3; have x5 := pw_cell_below HB2.out ((set_box HB.out).2.2.2.2.1.cell (World.block_lt_of_cell? w _ X.out) |>.trans X.out)))
    go_ret3
    exact ⟨_, rfl, Kd.V_mono (Kd.V_below (Kd.V_below (Kd.V_alloc HS.out _) HB.out) HB2.out) (fun _ hk => .inl hk), (set_box HB.out).2.2.2.2.1.trans (HB2.out.mono (Nat.le_of_lt (set_box HB.out).2.2.2.2.2))⟩
  rw [if_neg hv] at h
  have hv1 : ((rd_T43 l0 a1).f2 == 1073741824) = false := by simpa using hv
  clear hv
  obtain ⟨l, hl, h⟩ := Option.bind_eq_some_iff.1 h
  have el : l = l0 := by
    unfold api_Book_34.f at hl
    simp only [Option.bind_some, List.nil_append] at hl
    split at hl
    · exact (Option.some.inj hl).symm
    · cases hl
  subst el
  have HL := Aside0.mk hl
  clear hl
  simp only [Option.some.injEq, Prod.mk.injEq] at h
  obtain ⟨rfl, rfl, rfl⟩ := h
  go_enter Try.func19, Try.ntmps19
  go_wp2_with (first | (go_at_call 24; refine (books_there.calls k (some ad) c0 l a1 true _ (Kd.V_reads' (Kd.V_alloc HS.out _)).2.2 HC.out HT.out).mono ?_; rintro e w1 ⟨rfl, hb⟩; have HB := Aside0.mk hb; clear hb; obtain ⟨b0, b1, b2, b3, _, _⟩ := set_box HB.out) | (go_at_call 27; refine (policy_Check.calls _ _ _ _ _ _ HE.out).mono ?_; rintro e w2 ⟨rfl, hb⟩; have HB2 := Aside0.mk hb; clear hb; have B := Aside0.mk (And.intro b0 (And.intro b1 (And.intro b2 b3))); clear b0 b1 b2 b3; have x5 := pw_cell_below HB2.out ((set_box HB.out).2.2.2.2.1.cell (World.block_lt_of_cell? w _ X.out) |>.trans X.out)) | (go_at_call 28; refine (change_set (some ad) c0 l a1 h0 h1 l w.heap.size a2_0 a2_1 a2_2 a2_3 _ (Kd.V_reads' (Kd.V_below (Kd.V_below (Kd.V_alloc HS.out _) HB.out) HB2.out)).2.2 HC.out HL.out ?_ (pw_cell_below HB2.out B.out.1) (pw_cell_below HB2.out B.out.2.1) (pw_cell_below HB2.out B.out.2.2.1) (pw_cell_below HB2.out B.out.2.2.2)).mono ?_; (case refine_1 => (have := (set_box HB.out).2.2.2.2.2; have := HB2.out.size; omega)); rintro e w3 ⟨g, cap, rfl, ho, hb⟩; have HO := Aside0.mk ho; have HB3 := Aside0.mk hb; clear ho hb x5))
  obtain ⟨z0, e0, y0, y1, y2, y3, y4, y5⟩ := at_T43 (Kd.R_reads' HO.out).2.2 a1 h0 (by simpa using h1)
  cases e0
  clear y0 y1 y2 y3 y4
  rw [add_plain, rd_set a1 l _ h0 h1] at y5
  go_wp2
  go_quiet (fail)
  go_wp2
  go_ret3
  have hw := (set_box HB.out).2.2.2.2
  have h12 : w.heap.size ≤ w2.heap.size := Nat.le_trans (Nat.le_of_lt hw.2) HB2.out.size
  refine ⟨_, rfl, ?_, ?_⟩
  · exact Kd.V_drewN (Kd.V_mono (Kd.R_V (Kd.R_bound HO.out)) (fun _ hk => .inr (Nat.le_trans h12 hk.2.1))) _
  · exact pw_below_drewN ((hw.1.trans (HB2.out.mono (Nat.le_of_lt hw.2))).trans (HB3.out.mono h12)) _

end Go.Proofs.Ythplifnhibahpaa.Q
