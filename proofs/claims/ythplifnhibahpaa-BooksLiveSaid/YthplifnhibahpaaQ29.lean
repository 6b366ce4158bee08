-- Laid by wip/tools/hprint.py, a program of this repo, over the kit's print; not a text of print.sh.
import Derived.Test.YthplifnhibahpaaQ0
import Derived.Test.YthplifnhibahpaaQ8
import Derived.Test.YthplifnhibahpaaQ13
import Derived.Test.YthplifnhibahpaaQ15
import Derived.Test.YthplifnhibahpaaQ16
import Derived.Test.YthplifnhibahpaaQ17
import Derived.Test.YthplifnhibahpaaQ18
namespace Go.Proofs.Ythplifnhibahpaa.Q
open Go.RowKit Go.Proofs.Ythplifnhibahpaa.Zip Go.Proofs.YthplifnhibahpaaW.PrintWords Go.Proofs.YthplifnhibahpaaW.PrintLast Go.Proofs.YthplifnhibahpaaW.PrintMore
attribute [local go_sem] max2_int min2_int max_two min_two max_three min_three max_four min_four   -- for this text's walks alone
set_option linter.unusedVariables false
set_option linter.unusedSimpArgs false

/-! ### sandglasslaw16_BooksVersions: given by hand -/
def sandglasslaw16_BooksVersions.l0 (ids : List Int) (ps : List S25) : Nat → List S43 → List Int → Nat → Option Bool
  | 0, _, _, _ => none
  | k + 1, b, last, j => if j < ids.length then ((sandglassref09_Check.f k (rd_T25 ps (j : Int)).f0 (rd_T25 ps (j : Int)).f1 (rd_T25 ps (j : Int)).f2 (rd_T25 ps (j : Int)).f3).bind fun c => if c = 0 then ((books_Set.f k b (rd ids (j : Int)) (rd_T25 ps (j : Int)).f0 (rd_T25 ps (j : Int)).f1 (rd_T25 ps (j : Int)).f2 (rd_T25 ps (j : Int)).f3).bind fun t => if t.2.2 = 0 then (if 0 ≤ rd ids (j : Int) ∧ rd ids (j : Int) < 8 ∧ rd last (rd ids (j : Int)) < t.2.1 then sandglasslaw16_BooksVersions.l0 ids ps k t.1 (last.set (rd ids (j : Int)).toNat t.2.1) (j + 1) else none) else sandglasslaw16_BooksVersions.l0 ids ps k t.1 last (j + 1)) else ((books_Delete.f k b (rd ids (j : Int))).bind fun u => sandglasslaw16_BooksVersions.l0 ids ps k u.1 last (j + 1))) else ((books_May.f k b).bind fun m => if m = true then sandglasslaw16_live.f k else none)
def sandglasslaw16_BooksVersions.f (k : Nat) (l0 : List Int) (l1 : List S25) : Option Bool := if l0.length > 60 ∨ l1.length ≠ l0.length then sandglasslaw16_live.f k else (books_New.f.bind fun b => sandglasslaw16_BooksVersions.l0 l0 l1 k b [0, 0, 0, 0, 0, 0, 0, 0] 0)
theorem arr_cell {W : World} {g t : Nat} {l : List Int} (h : W.heap[g]? = some (.cells (l.map (Value.int .i64)).toArray t (0, 0))) (i : Int) (h0 : 0 ≤ i) (h1 : i < (l.length : Int)) : W.cell? ⟨g, i.toNat, none⟩ = some (.int .i64 (rd l i)) := by
  rw [cell_of_row W g _ _ t (0, 0) h]
  simp only [List.getElem?_toArray, List.getElem?_map]
  rw [List.getElem?_eq_getElem (show i.toNat < l.length by omega)]
  simp [rd, List.getD_eq_getElem?_getD, List.getElem?_eq_getElem (show i.toNat < l.length by omega)]
theorem arr_put {W : World} {g t : Nat} {l : List Int} (h : W.heap[g]? = some (.cells (l.map (Value.int .i64)).toArray t (0, 0))) (i : Int) (x : Int) (h0 : 0 ≤ i) (h1 : i < (l.length : Int)) : (W.setCell ⟨g, i.toNat, none⟩ (.int .i64 x)).heap[g]? = some (.cells ((l.set i.toNat x).map (Value.int .i64)).toArray t (0, 0)) := by
  simp only [World.setCell, Array.getElem?_modify, if_pos, h, Option.map_some]
  simp [List.map_set]
/-- What a round holds beside the cells it reads. -/
structure VRest (w : World) (ga : Nat) (o : Obj) (v : Value) (b : List S43) (W : World) : Prop where
  v : Kd.V k43 43 W w.heap.size (fun k_ => k_ ≠ ga) v b
  blk : W.heap[ga]? = some o
  lt : ga < W.heap.size
  below : Below w.heap.size w W
theorem VRest.step {w W w1 : World} {ga : Nat} {o : Obj} {v : Value} {b : List S43} (h : VRest w ga o v b W) (hb : Below W.heap.size W w1) : VRest w ga o v b w1 :=
  ⟨Kd.V_below h.v hb, (hb.block _ h.lt).trans h.blk, Nat.lt_of_lt_of_le h.lt hb.size, h.below.trans (hb.mono h.below.size)⟩
theorem VRest.put {w W w1 : World} {ga : Nat} {o : Obj} {v v1 : Value} {b b1 : List S43} {base : Nat} (h : VRest w ga o v b W) (hb : Below W.heap.size W w1) (hv : Kd.V k43 43 w1 base (fun k_ => (k_ ≠ ga ∨ W.heap.size ≤ k_)) v1 b1) : VRest w ga o v1 b1 w1 :=
  ⟨Kd.V_map (Kd.V_mono hv (fun k_ hk => by have := h.lt; omega)) (fun _ hf => hf), (h.step hb).blk, (h.step hb).lt, (h.step hb).below⟩
theorem VRest.set {w W : World} {ga : Nat} {last : List Int} {v : Value} {b : List S43} {t : Nat} (hw : w.heap.size ≤ ga) (h : VRest w ga (.cells (last.map (Value.int .i64)).toArray t (0, 0)) v b W) (i x : Int) (h0 : 0 ≤ i) (h1 : i < (last.length : Int)) : VRest w ga (.cells ((last.set i.toNat x).map (Value.int .i64)).toArray t (0, 0)) v b (W.setCell ⟨ga, i.toNat, none⟩ (.int .i64 x)) :=
  ⟨Kd.V_far h.v (fun _ hk => hk) _, arr_put h.blk i x h0 h1, by simpa [World.setCell] using h.lt, h.below.setCell hw _⟩
theorem keepS {W w1 : World} {R : World → Prop} {p0 p1 p2 p3 p4 : Addr} {v0 v1 v2 v3 v4 : Value} (hR : ∀ {A B : World}, R A → Below A.heap.size A B → R B) (hb : Below W.heap.size W w1) (h : W.cell? p0 = some v0 ∧ W.cell? p1 = some v1 ∧ W.cell? p2 = some v2 ∧ W.cell? p3 = some v3 ∧ W.cell? p4 = some v4 ∧ R W) :
    w1.cell? p0 = some v0 ∧ w1.cell? p1 = some v1 ∧ w1.cell? p2 = some v2 ∧ w1.cell? p3 = some v3 ∧ w1.cell? p4 = some v4 ∧ R w1 :=
  ⟨pw_cell_below hb h.1, pw_cell_below hb h.2.1, pw_cell_below hb h.2.2.1, pw_cell_below hb h.2.2.2.1, pw_cell_below hb h.2.2.2.2.1, hR h.2.2.2.2.2 hb⟩
theorem of6 {a b c d e f : Prop} (h : a ∧ b ∧ c ∧ d ∧ e ∧ f) : f := h.2.2.2.2.2
set_option maxHeartbeats 8000000 in
set_option maxRecDepth 100000 in
theorem sandglasslaw16_BooksVersions.calls (k : Nat) (A0 : Option Addr) (c0 : Nat) (l0 : List Int) (A1 : Option Addr) (c1 : Nat) (l1 : List S25) (r : Bool) (w : World) (hr0 : Kd.C (Kd.int .i64) w A0 l0.length l0) (hc0 : l0.length ≤ c0) (hr1 : Kd.C k25 w A1 l1.length l1) (hc1 : l1.length ≤ c1) (h : sandglasslaw16_BooksVersions.f k l0 l1 = some r) :
    Calls Try.prog 6 #[.slice A0 l0.length c0, .slice A1 l1.length c1] w fun e w' => e = .returned (.bool r) ∧ Below w.heap.size w w' := by
  have HR0 := Aside0.mk hr0
  have HR1 := Aside0.mk hr1
  clear hr0 hr1 hc0 hc1
  unfold sandglasslaw16_BooksVersions.f at h
  by_cases h60 : l0.length > 60
  · have d60 : decide ((60 : Int) < (l0.length : Int)) = true := decide_eq_true (by omega)
    rw [if_pos (Or.inl h60)] at h
    have H := Aside0.mk h
    clear h h60
    go_enter Try.func6, Try.ntmps6
    go_wp2_with (first | (go_at_call 8; refine (sandglasslaw16_live.calls k r _ H.out).mono ?_; rintro e w1 ⟨rfl, hb⟩))
    go_ret
    exact ⟨rfl, hb⟩
  have d60 : decide ((60 : Int) < (l0.length : Int)) = false := decide_eq_false (by omega)
  by_cases hll : l1.length = l0.length
  case neg =>
    have dll : ((l1.length : Int) != (l0.length : Int)) = true := by rw [bne_iff_ne]; omega
    rw [if_pos (Or.inr hll)] at h
    have H := Aside0.mk h
    clear h h60 hll
    go_enter Try.func6, Try.ntmps6
    go_wp2_with (first | (go_at_call 8; refine (sandglasslaw16_live.calls k r _ H.out).mono ?_; rintro e w1 ⟨rfl, hb⟩))
    go_ret
    exact ⟨rfl, hb⟩
  have dll : ((l1.length : Int) != (l0.length : Int)) = false := by rw [bne_eq_false_iff_eq]; omega
  rw [if_neg (by omega)] at h
  obtain ⟨b0, hb0, h⟩ := Option.bind_eq_some_iff.1 h
  have H' := Aside0.mk h
  have HN := Aside0.mk hb0
  have HL := Aside0.mk hll
  have H60 := Aside0.mk h60
  clear h hb0 hll h60
  go_enter Try.func6, Try.ntmps6
  go_wp2_with (first | (go_at_call 17; refine (books_New.calls _ _ HN.out).mono ?_; rintro e w1 ⟨v0, rfl, ho, hb⟩; have HO := Aside0.mk ho; have HB := Aside0.mk hb; clear ho hb))
  have HGA := Aside0.mk (show w.heap.size ≤ w1.heap.size from HB.out.size)
  have HBLK := Aside0.mk (show (w1.alloc (.cells #[.int .i64 0, .int .i64 0, .int .i64 0, .int .i64 0, .int .i64 0, .int .i64 0, .int .i64 0, .int .i64 0] 47)).heap[w1.heap.size]? = some (.cells (([0, 0, 0, 0, 0, 0, 0, 0] : List Int).map (Value.int .i64)).toArray 47 (0, 0)) from heap_alloc_new w1 _)
  have HV := Aside0.mk (show Kd.V k43 43 (w1.alloc (.cells #[.int .i64 0, .int .i64 0, .int .i64 0, .int .i64 0, .int .i64 0, .int .i64 0, .int .i64 0, .int .i64 0] 47)) w.heap.size (fun k_ => k_ ≠ w1.heap.size) v0 b0 from Kd.V_alloc (Kd.V_mono (Kd.R_V (Kd.R_bound HO.out)) (fun k_ hk => by have := hk.2.2.1; omega)) _)
  have HB1 := Aside0.mk (HB.out.alloc HB.out.size (.cells #[.int .i64 0, .int .i64 0, .int .i64 0, .int .i64 0, .int .i64 0, .int .i64 0, .int .i64 0, .int .i64 0] 47))
  clear HO HB
  go_loopg [5, 7] k (fun kq v5 v7 w' => ∃ (b : List S43) (last : List Int) (j : Nat), v7 = .int .i64 j ∧ Aside0 (sandglasslaw16_BooksVersions.l0 l0 l1 kq b last j = some r) ∧ Aside0 (kq ≤ k) ∧ Aside0 (Kd.V k43 43 w' w.heap.size (fun k_ => k_ ≠ w1.heap.size) v5 b) ∧ Aside0 (w'.heap[w1.heap.size]? = some (.cells (last.map (Value.int .i64)).toArray 47 (0, 0))) ∧ Aside0 (last.length = 8 ∧ j ≤ l0.length) ∧ Aside0 (Below w.heap.size w w'))
  case atStart => exact ⟨b0, _, 0, rfl, H', ⟨Nat.le_refl _⟩, HV, HBLK, ⟨rfl, Nat.zero_le _⟩, HB1⟩
  case round =>
    clear H' HV HBLK HB1
    obtain ⟨b, last, j, rfl, HA, HK, HV, HBLK, HJ, HB⟩ := hrel
    cases gk with
    | zero => exact absurd HA.out (by simp [sandglasslaw16_BooksVersions.l0])
    | succ k1 =>
      have H := HA.out
      clear HA
      obtain ⟨hl8, hj⟩ := HJ.out
      have HL8 := Aside0.mk hl8
      clear HJ hl8
      simp only [sandglasslaw16_BooksVersions.l0] at H
      obtain ⟨Av, cv, rfl⟩ := Kd.V_slice HV.out
      have hga : w1.heap.size < wr.heap.size := (Array.getElem?_eq_some_iff.1 HBLK.out).1
      have HGL := Aside0.mk hga
      clear hga
      by_cases hlt : j < l0.length
      case neg =>
        rw [if_neg hlt] at H
        obtain ⟨m, hm, H⟩ := Option.bind_eq_some_iff.1 H
        have HM := Aside0.mk hm
        clear hm
        cases m
        · cases H
        rw [if_pos rfl] at H
        have HLV := Aside0.mk H
        clear H
        have d1 : decide (j < l0.length) = false := decide_eq_false (by omega)
        clear hlt hj
        go_wp2_with (first | (go_at_call 11; refine (books_May.calls k1 Av cv b true _ (Kd.V_reads' HV.out).2.2 (Kd.V_reads' HV.out).2.1 HM.out).mono ?_; rintro e w2 ⟨rfl, hb⟩; have HB2 := Aside0.mk hb; clear hb) | (go_at_call 8; refine (sandglasslaw16_live.calls k1 r _ HLV.out).mono ?_; rintro e w3 ⟨rfl, hb⟩; have HB3 := Aside0.mk hb; clear hb))
        go_ret
        exact ⟨rfl, (HB.out.trans (HB2.out.mono HB.out.size)).trans (HB3.out.mono (Nat.le_trans HB.out.size HB2.out.size))⟩
      rw [if_pos hlt] at H
      obtain ⟨c, hc, H⟩ := Option.bind_eq_some_iff.1 H
      have HC := Aside0.mk hc
      clear hc
      have hlt1 : j < l1.length := by have := HL.out; omega
      have dw : IntKind.i64.wrap ((j : Int) + 1) = (j : Int) + 1 := IntWalk.i64_in _ (by have := H60.out; omega)
      obtain ⟨adp, ep, y0, y1, y2, y3⟩ := at_T25 HR1.out (j : Int) (by omega) (by have := HL.out; omega)
      obtain ⟨adi, ei, x0⟩ := Kd.at_int HR0.out (j : Int) (by omega) (by omega)
      subst ep ei
      simp only [Int.toNat_natCast] at y0 y1 y2 y3 x0
      replace y0 := (HB.out.cell (World.block_lt_of_cell? w _ y0)).trans y0
      replace y1 := (HB.out.cell (World.block_lt_of_cell? w _ y1)).trans y1
      replace y2 := (HB.out.cell (World.block_lt_of_cell? w _ y2)).trans y2
      replace y3 := (HB.out.cell (World.block_lt_of_cell? w _ y3)).trans y3
      replace x0 := (HB.out.cell (World.block_lt_of_cell? w _ x0)).trans x0
      by_cases hc0 : c = 0
      case neg =>
        rw [if_neg hc0] at H
        obtain ⟨⟨u1, u2⟩, hu, H⟩ := Option.bind_eq_some_iff.1 H
        have HD := Aside0.mk hu
        have H' := Aside0.mk H
        clear hu H
        have dc : (c != 0) = true := by simpa using hc0
        have dc2 : (c == 0) = false := by simpa using hc0
        clear hc0
        have HJ := Aside0.mk hlt
        clear hj
        go_wp2_with (first | (go_at_call 23; refine (sandglassref09_Check.calls k1 _ _ _ _ c _ HC.out).mono ?_; rintro e w2 ⟨rfl, hb⟩; have HB2 := Aside0.mk hb; replace x0 := pw_cell_below hb x0; clear hb y0 y1 y2 y3) | (go_at_call 21; refine (books_Delete.calls k1 (fun k_ => k_ ≠ w1.heap.size) Av cv b (rd l0 (j : Int)) u1 u2 _ (Kd.V_map (Kd.V_below HV.out HB2.out) (fun _ hf => hf)) HD.out).mono ?_; rintro e w3 ⟨v, rfl, hv, hb⟩; have HV3 := Aside0.mk hv; have HB3 := Aside0.mk hb; clear hv hb x0))
        go_roundg k1
        case measure => have := HK.out; omega
        case rel =>
          have h2 := HB2.out.size
          refine ⟨u1, last, j + 1, by first | rfl | (simp; done), H', ⟨by have := HK.out; omega⟩, ⟨Kd.V_map (Kd.V_mono HV3.out (fun k_ hk => by have := HGL.out; omega)) (fun _ hf => hf)⟩, ⟨?_⟩, ⟨HL8.out, HJ.out⟩, ⟨(HB.out.trans (HB2.out.mono HB.out.size)).trans (HB3.out.mono (Nat.le_trans HB.out.size h2))⟩⟩
          exact (HB3.out.block _ (Nat.lt_of_lt_of_le HGL.out h2)).trans ((HB2.out.block _ HGL.out).trans HBLK.out)
      subst hc0
      rw [if_pos rfl] at H
      obtain ⟨⟨t1, t2, t3⟩, hu, H⟩ := Option.bind_eq_some_iff.1 H
      have HS := Aside0.mk hu
      clear hu
      go_wp2_with (first | (go_at_call 23; refine (sandglassref09_Check.calls k1 _ _ _ _ 0 _ HC.out).mono ?_; rintro e w2 ⟨rfl, hb⟩; have HB2 := Aside0.mk hb; replace x0 := pw_cell_below hb x0; replace y0 := pw_cell_below hb y0; replace y1 := pw_cell_below hb y1; replace y2 := pw_cell_below hb y2; replace y3 := pw_cell_below hb y3; clear hb))
      have hr : VRest w w1.heap.size (.cells (last.map (Value.int .i64)).toArray 47 (0, 0)) (.slice Av b.length cv) b wr := ⟨HV.out, HBLK.out, HGL.out, HB.out⟩
      have hr2 := hr.step HB2.out
      clear hr
      go_region_held3 (fun w' => w'.cell? (adi.add j) = some (.int .i64 (rd l0 (j : Int))) ∧ w'.cell? (adp.add (j * 4)) = some (.int .i64 (rd_T25 l1 (j : Int)).f0) ∧ w'.cell? ⟨(adp.add (j * 4)).block, (adp.add (j * 4)).off + 1, none⟩ = some (.int .i64 (rd_T25 l1 (j : Int)).f1) ∧ w'.cell? ⟨(adp.add (j * 4)).block, (adp.add (j * 4)).off + 2, none⟩ = some (.int .i64 (rd_T25 l1 (j : Int)).f2) ∧ w'.cell? ⟨(adp.add (j * 4)).block, (adp.add (j * 4)).off + 3, none⟩ = some (.int .i64 (rd_T25 l1 (j : Int)).f3) ∧ VRest w w1.heap.size (.cells (last.map (Value.int .i64)).toArray 47 (0, 0)) (.slice Av b.length cv) b w')
        ((first | assumption | exact keepS VRest.step (by assumption) (by assumption) | exact ⟨by go_simp, by go_simp, by go_simp, by go_simp, by go_simp, hr2.step (below_drew (Below.refl _ _))⟩))
        ((go_at_call 19; refine (books_Set.calls k1 (fun k_ => k_ ≠ w1.heap.size) Av cv b (rd l0 (j : Int)) _ _ _ _ t1 t2 t3 _ ?hv HS.out).mono ?_; (case hv => exact Kd.V_map (VRest.v (of6 (by assumption))) (fun _ hf => hf)); rintro e w3 ⟨v, rfl, hv, hb⟩))
      have hr3 := (hr2.step (below_drew (Below.refl _ _))).put hb hv
      have x1 := pw_cell_below hb (show (w2.drew).cell? (adi.add j) = some (.int .i64 (rd l0 (j : Int))) from by go_simp)
      have HR := Aside0.mk hr3
      clear hr2 hr3 hv hb x0 y0 y1 y2 y3
      have HJ := Aside0.mk hlt
      clear hj
      by_cases h3 : t3 = 0
      case neg =>
        try dsimp only at H
        rw [if_neg h3] at H
        have H' := Aside0.mk H
        clear H
        have d3 : (t3 == 0) = false := by simpa using h3
        clear h3
        go_wp2
        go_roundg k1
        case measure => have := HK.out; omega
        case rel => exact ⟨t1, last, j + 1, by first | rfl | (simp; done), H', ⟨by have := HK.out; omega⟩, ⟨HR.out.v⟩, ⟨HR.out.blk⟩, ⟨HL8.out, HJ.out⟩, ⟨HR.out.below⟩⟩
      subst h3
      try dsimp only at H
      rw [if_pos rfl] at H
      by_cases hx : 0 ≤ rd l0 (j : Int) ∧ rd l0 (j : Int) < 8 ∧ rd last (rd l0 (j : Int)) < t2
      case neg => rw [if_neg hx] at H; cases H
      rw [if_pos hx] at H
      have H' := Aside0.mk H
      clear H
      obtain ⟨h0, h8, ht⟩ := hx
      have a0 := arr_cell HR.out.blk (rd l0 (j : Int)) h0 (by rw [HL8.out]; exact h8)
      have e1 : decide (rd l0 (j : Int) < 0) = false := decide_eq_false (by omega)
      have e2 : decide ((7 : Int) < rd l0 (j : Int)) = false := decide_eq_false (by omega)
      have e3 : decide (t2 ≤ rd last (rd l0 (j : Int))) = false := decide_eq_false (by omega)
      have q0 := eq_true h0
      have q8 := eq_true h8
      have HX := Aside0.mk (And.intro h0 h8)
      clear h0 h8 ht
      have fz := blk_frozen HR.out.blk (rd l0 (j : Int)).toNat
      go_wp2
      go_roundg k1
      case measure => have := HK.out; omega
      case rel =>
        have hs := HR.out.set HGA.out (rd l0 (j : Int)) t2 HX.out.1 (by rw [HL8.out]; exact HX.out.2)
        exact ⟨t1, last.set (rd l0 (j : Int)).toNat t2, j + 1, by first | rfl | (simp; done), H', ⟨by have := HK.out; omega⟩, ⟨hs.v⟩, ⟨hs.blk⟩, ⟨by rw [List.length_set]; exact HL8.out, HJ.out⟩, ⟨hs.below⟩⟩

end Go.Proofs.Ythplifnhibahpaa.Q
