-- Laid by wip/tools/hprint.py, a program of this repo, over the kit's print; not a text of print.sh.
import Derived.Test.YthplifnhibahpaaQ0
import Derived.Test.YthplifnhibahpaaQ11
import Derived.Test.YthplifnhibahpaaQ12
import Derived.Test.YthplifnhibahpaaQ13
import Derived.Test.YthplifnhibahpaaQ15
import Derived.Test.YthplifnhibahpaaQ16
import Derived.Test.YthplifnhibahpaaQ17
import Derived.Test.YthplifnhibahpaaQ18
import Derived.Test.YthplifnhibahpaaQ29
namespace Go.Proofs.Ythplifnhibahpaa.Q
open Go.RowKit Go.Proofs.Ythplifnhibahpaa.Zip Go.Proofs.YthplifnhibahpaaW.PrintWords Go.Proofs.YthplifnhibahpaaW.PrintLast Go.Proofs.YthplifnhibahpaaW.PrintMore
attribute [local go_sem] max2_int min2_int max_two min_two max_three min_three max_four min_four   -- for this text's walks alone
set_option linter.unusedVariables false
set_option linter.unusedSimpArgs false

/-! ### sandglasslaw16_BooksLive: given by hand -/
def rdb (l : List Bool) (i : Int) : Bool := l.getD i.toNat false
def wantN (on : List Bool) : Nat → List Int
  | 0 => []
  | n + 1 => if rdb on (n : Int) = true then wantN on n ++ [(n : Int)] else wantN on n
theorem wantN_len (on : List Bool) : ∀ n, (wantN on n).length ≤ n
  | 0 => Nat.le_refl _
  | n + 1 => by simp only [wantN]; have := wantN_len on n; split <;> simp <;> omega
def sandglasslaw16_BooksLive.l0 (ids : List Int) (ps : List S25) : Nat → List S43 → List Bool → Nat → Option Bool
  | 0, _, _, _ => none
  | k + 1, b, on, j => if j < ids.length then ((sandglassref09_Check.f k (rd_T25 ps (j : Int)).f0 (rd_T25 ps (j : Int)).f1 (rd_T25 ps (j : Int)).f2 (rd_T25 ps (j : Int)).f3).bind fun c => if c = 0 then ((books_Set.f k b (rd ids (j : Int)) (rd_T25 ps (j : Int)).f0 (rd_T25 ps (j : Int)).f1 (rd_T25 ps (j : Int)).f2 (rd_T25 ps (j : Int)).f3).bind fun t => if t.2.2 = 0 then (if 0 ≤ rd ids (j : Int) ∧ rd ids (j : Int) < 8 then sandglasslaw16_BooksLive.l0 ids ps k t.1 (on.set (rd ids (j : Int)).toNat true) (j + 1) else none) else sandglasslaw16_BooksLive.l0 ids ps k t.1 on (j + 1)) else ((books_Delete.f k b (rd ids (j : Int))).bind fun u => if u.2 = 0 then (if 0 ≤ rd ids (j : Int) ∧ rd ids (j : Int) < 8 ∧ rdb on (rd ids (j : Int)) = true then sandglasslaw16_BooksLive.l0 ids ps k u.1 (on.set (rd ids (j : Int)).toNat false) (j + 1) else none) else sandglasslaw16_BooksLive.l0 ids ps k u.1 on (j + 1))) else ((books_Live.f k b).bind fun a => (sandglassref04_Ints.f k a (wantN on 8)).bind fun m => if m = true then sandglasslaw16_live.f k else none)
def sandglasslaw16_BooksLive.f (k : Nat) (l0 : List Int) (l1 : List S25) : Option Bool := if l0.length > 60 ∨ l1.length ≠ l0.length then sandglasslaw16_live.f k else (books_New.f.bind fun b => sandglasslaw16_BooksLive.l0 l0 l1 k b [false, false, false, false, false, false, false, false] 0)
theorem arrb_cell {W : World} {g t : Nat} {l : List Bool} (h : W.heap[g]? = some (.cells (l.map Value.bool).toArray t (0, 0))) (i : Int) (h0 : 0 ≤ i) (h1 : i < (l.length : Int)) : W.cell? ⟨g, i.toNat, none⟩ = some (.bool (rdb l i)) := by
  rw [cell_of_row W g _ _ t (0, 0) h]
  simp only [List.getElem?_toArray, List.getElem?_map]
  rw [List.getElem?_eq_getElem (show i.toNat < l.length by omega)]
  simp [rdb, List.getD_eq_getElem?_getD, List.getElem?_eq_getElem (show i.toNat < l.length by omega)]
theorem arrb_put {W : World} {g t : Nat} {l : List Bool} (h : W.heap[g]? = some (.cells (l.map Value.bool).toArray t (0, 0))) (i : Int) (x : Bool) (h0 : 0 ≤ i) (h1 : i < (l.length : Int)) : (W.setCell ⟨g, i.toNat, none⟩ (.bool x)).heap[g]? = some (.cells ((l.set i.toNat x).map Value.bool).toArray t (0, 0)) := by
  simp only [World.setCell, Array.getElem?_modify, if_pos, h, Option.map_some]
  simp [List.map_set]
theorem VRest.setb {w W : World} {ga : Nat} {on : List Bool} {v : Value} {b : List S43} {t : Nat} (hw : w.heap.size ≤ ga) (h : VRest w ga (.cells (on.map Value.bool).toArray t (0, 0)) v b W) (i : Int) (x : Bool) (h0 : 0 ≤ i) (h1 : i < (on.length : Int)) : VRest w ga (.cells ((on.set i.toNat x).map Value.bool).toArray t (0, 0)) v b (W.setCell ⟨ga, i.toNat, none⟩ (.bool x)) :=
  ⟨Kd.V_far h.v (fun _ hk => hk) _, arrb_put h.blk i x h0 h1, by simpa [World.setCell] using h.lt, h.below.setCell hw _⟩
set_option maxHeartbeats 8000000 in
set_option maxRecDepth 100000 in
theorem sandglasslaw16_BooksLive.calls (k : Nat) (A0 : Option Addr) (c0 : Nat) (l0 : List Int) (A1 : Option Addr) (c1 : Nat) (l1 : List S25) (r : Bool) (w : World) (hr0 : Kd.C (Kd.int .i64) w A0 l0.length l0) (hc0 : l0.length ≤ c0) (hr1 : Kd.C k25 w A1 l1.length l1) (hc1 : l1.length ≤ c1) (h : sandglasslaw16_BooksLive.f k l0 l1 = some r) :
    Calls Try.prog 7 #[.slice A0 l0.length c0, .slice A1 l1.length c1] w fun e w' => e = .returned (.bool r) ∧ Below w.heap.size w w' := by
  have HR0 := Aside0.mk hr0
  have HR1 := Aside0.mk hr1
  clear hr0 hr1 hc0 hc1
  unfold sandglasslaw16_BooksLive.f at h
  by_cases h60 : l0.length > 60
  · have d60 : decide ((60 : Int) < (l0.length : Int)) = true := decide_eq_true (by omega)
    rw [if_pos (Or.inl h60)] at h
    have H := Aside0.mk h
    clear h h60
    go_enter Try.func7, Try.ntmps7
    go_wp2_with (first | (go_at_call 8; refine (sandglasslaw16_live.calls k r _ H.out).mono ?_; rintro e w1 ⟨rfl, hb⟩))
    go_ret
    exact ⟨rfl, hb⟩
  have d60 : decide ((60 : Int) < (l0.length : Int)) = false := decide_eq_false (by omega)
  by_cases hll : l1.length = l0.length
  case neg =>
    have dll : ((l1.length : Int) != (l0.length : Int)) = true := by rw [bne_iff_ne]; omega
    rw [if_pos (Or.inr hll)] at h
    have H := Aside0.mk h
    clear h h60 hll
    go_enter Try.func7, Try.ntmps7
    go_wp2_with (first | (go_at_call 8; refine (sandglasslaw16_live.calls k r _ H.out).mono ?_; rintro e w1 ⟨rfl, hb⟩))
    go_ret
    exact ⟨rfl, hb⟩
  have dll : ((l1.length : Int) != (l0.length : Int)) = false := by rw [bne_eq_false_iff_eq]; omega
  rw [if_neg (by omega)] at h
  obtain ⟨b0, hb0, h⟩ := Option.bind_eq_some_iff.1 h
  have H' := Aside0.mk h
  have HN := Aside0.mk hb0
  have HL := Aside0.mk hll
  have H60 := Aside0.mk h60
  clear h hb0 hll h60
  go_enter Try.func7, Try.ntmps7
  go_wp2_with (first | (go_at_call 17; refine (books_New.calls _ _ HN.out).mono ?_; rintro e w1 ⟨v0, rfl, ho, hb⟩; have HO := Aside0.mk ho; have HB := Aside0.mk hb; clear ho hb))
  have HGA := Aside0.mk (show w.heap.size ≤ w1.heap.size from HB.out.size)
  have HBLK := Aside0.mk (show (w1.alloc (.cells #[.bool false, .bool false, .bool false, .bool false, .bool false, .bool false, .bool false, .bool false] 49)).heap[w1.heap.size]? = some (.cells (([false, false, false, false, false, false, false, false] : List Bool).map Value.bool).toArray 49 (0, 0)) from heap_alloc_new w1 _)
  have HV := Aside0.mk (show Kd.V k43 43 (w1.alloc (.cells #[.bool false, .bool false, .bool false, .bool false, .bool false, .bool false, .bool false, .bool false] 49)) w.heap.size (fun k_ => k_ ≠ w1.heap.size) v0 b0 from Kd.V_alloc (Kd.V_mono (Kd.R_V (Kd.R_bound HO.out)) (fun k_ hk => by have := hk.2.2.1; omega)) _)
  have HB1 := Aside0.mk (HB.out.alloc HB.out.size (.cells #[.bool false, .bool false, .bool false, .bool false, .bool false, .bool false, .bool false, .bool false] 49))
  clear HO HB
  go_loopg [5, 7] k (fun kq v5 v7 w' => ∃ (b : List S43) (last : List Bool) (j : Nat), v7 = .int .i64 j ∧ Aside0 (sandglasslaw16_BooksLive.l0 l0 l1 kq b last j = some r) ∧ Aside0 (kq ≤ k) ∧ Aside0 (Kd.V k43 43 w' w.heap.size (fun k_ => k_ ≠ w1.heap.size) v5 b) ∧ Aside0 (w'.heap[w1.heap.size]? = some (.cells (last.map Value.bool).toArray 49 (0, 0))) ∧ Aside0 (last.length = 8 ∧ j ≤ l0.length) ∧ Aside0 (Below w.heap.size w w'))
  case atStart => exact ⟨b0, _, 0, rfl, H', ⟨Nat.le_refl _⟩, HV, HBLK, ⟨rfl, Nat.zero_le _⟩, HB1⟩
  case round =>
    clear H' HV HBLK HB1
    obtain ⟨b, last, j, rfl, HA, HK, HV, HBLK, HJ, HB⟩ := hrel
    cases gk with
    | zero => exact absurd HA.out (by simp [sandglasslaw16_BooksLive.l0])
    | succ k1 =>
      have H := HA.out
      clear HA
      obtain ⟨hl8, hj⟩ := HJ.out
      have HL8 := Aside0.mk hl8
      clear HJ hl8
      simp only [sandglasslaw16_BooksLive.l0] at H
      obtain ⟨Av, cv, rfl⟩ := Kd.V_slice HV.out
      have hga : w1.heap.size < wr.heap.size := (Array.getElem?_eq_some_iff.1 HBLK.out).1
      have HGL := Aside0.mk hga
      clear hga
      by_cases hlt : j < l0.length
      case neg =>
        rw [if_neg hlt] at H
        obtain ⟨a, ha, H⟩ := Option.bind_eq_some_iff.1 H
        obtain ⟨m, hm, H⟩ := Option.bind_eq_some_iff.1 H
        have HLI := Aside0.mk ha
        have HM := Aside0.mk hm
        clear ha hm
        cases m
        · cases H
        rw [if_pos rfl] at H
        have HLV := Aside0.mk H
        clear H
        have d1 : decide (j < l0.length) = false := decide_eq_false (by omega)
        clear hlt hj
        have hr : VRest w w1.heap.size (.cells (last.map Value.bool).toArray 49 (0, 0)) (.slice Av b.length cv) b wr := ⟨HV.out, HBLK.out, HGL.out, HB.out⟩
        have HR := Aside0.mk hr
        clear hr HV HBLK HB HGL
        go_wp2
        obtain ⟨wl, hwl⟩ : ∃ wl : World, wl = wr := ⟨_, rfl⟩
        subst hwl
        go_loopw [13, 14] (fun v13 v14 wq => ∃ i : Nat, i ≤ 8 ∧ v14 = .int .i64 i ∧ Aside0 (Kd.R (Kd.int .i64) 3 wq wl.heap.size (fun _ => True) v13 (wantN last i)) ∧ Aside0 (Below wl.heap.size wl wq)) (fun _ v14 _ => 8 - (intOf v14).toNat)
        case atStart => exact ⟨0, by omega, rfl, ⟨Kd.R_nil _ _ _ _ _⟩, ⟨Below.refl _ _⟩⟩
        case round =>
          obtain ⟨i, hi, rfl, HW, HQ⟩ := hrel
          have HR2 := Aside0.mk (HR.out.step HQ.out)
          by_cases hi8 : i < 8
          · have a0 := arrb_cell HR2.out.blk (i : Int) (by omega) (by rw [HL8.out]; omega)
            rw [Int.toNat_natCast] at a0
            have q8 : decide ((i : Int) < 8) = true := decide_eq_true (by omega)
            have dw : IntKind.i64.wrap ((i : Int) + 1) = (i : Int) + 1 := IntWalk.i64_in _ (by omega)
            have hwl := wantN_len last i
            have HWL := Aside0.mk hwl
            clear hwl
            cases hb : rdb last (i : Int)
            · have hn : wantN last (i + 1) = wantN last i := by simp only [wantN, hb]; rfl
              have HN2 := Aside0.mk hn
              rw [hb] at a0
              clear hn hb
              go_wp2
              go_roundw
              case rel => exact ⟨i + 1, by omega, by first | rfl | (simp; done), ⟨by rw [HN2.out]; exact HW.out⟩, HQ⟩
              case measure => simp [intOf]; omega
            · have hn : wantN last (i + 1) = wantN last i ++ [(i : Int)] := by simp only [wantN, hb, if_true]
              have HN2 := Aside0.mk hn
              rw [hb] at a0
              clear hn hb
              go_wp2_with (first | ((with_reducible refine gate_builtin (b := .append) (xs := #[.tmp 118, .tmp 120]) rfl ?_); at_builtin; refine Kd.R_append (Kd.int .i64) (w0 := wl) wl.heap.size rfl (.tmp 118) (.tmp 120) 31 3 (.int .i64 0) 8 rfl Try.underlying31 info3 rfl (by decide) (by omega) u13 (wantN last i) (i : Int) [.int .i64 (i : Int)] (fun _ => True) (fun _ => False) rfl rfl ?aP (fun _ hk => hk.elim) ?aF ?aO ?aB ?aS ?aL ?_; (case aP => exact rfl); (case aB => exact HQ.out); (case aF => exact (fun _ _ => trivial)); (case aO => exact HW.out); (case aS => exact HQ.out.size); (case aL => have := HWL.out; omega); intro v204 w7 ho hb hg hat; rw [← HN2.out] at ho; have HW2 := Aside0.mk ho; have HQ2 := Aside0.mk hb; clear ho hb hg hat a0 HR2))
              go_roundw
              case rel => exact ⟨i + 1, by omega, by first | rfl | (simp; done), HW2, HQ2⟩
              case measure => simp [intOf]; omega
          · obtain rfl : i = 8 := by omega
            clear hi hi8
            obtain ⟨Aw, cw, rfl⟩ := Kd.R_slice HW.out
            go_wp2_with (first | (go_at_call 14; refine (books_Live.calls k1 Av cv b a _ (Kd.V_reads' HR2.out.v).2.2 (Kd.V_reads' HR2.out.v).2.1 HLI.out).mono ?_; rintro e w3 ⟨v3, rfl, ho, hb⟩; obtain ⟨A3, c3, rfl⟩ := Kd.R_slice ho; have HO3 := Aside0.mk ho; have HB3 := Aside0.mk hb; clear ho hb) | (go_at_call 13; refine (sandglassref04_Ints.calls k1 A3 c3 a Aw cw (wantN last 8) true _ (Kd.R_reads' HO3.out).2.2 (Kd.R_reads' HO3.out).2.1 (Kd.R_reads' (Kd.R_below HW.out HB3.out)).2.2 (Kd.R_reads' (Kd.R_below HW.out HB3.out)).2.1 HM.out).mono ?_; rintro e w4 ⟨rfl, hd⟩; have HD4 := Aside0.mk hd.below; clear hd) | (go_at_call 8; refine (sandglasslaw16_live.calls k1 r _ HLV.out).mono ?_; rintro e w5 ⟨rfl, hb⟩; have HB5 := Aside0.mk hb; clear hb))
            go_ret
            have b3 := HR2.out.below.trans (HB3.out.mono HR2.out.below.size)
            have b4 := b3.trans (HD4.out.mono b3.size)
            exact ⟨rfl, b4.trans (HB5.out.mono b4.size)⟩
      rw [if_pos hlt] at H
      obtain ⟨c, hc, H⟩ := Option.bind_eq_some_iff.1 H
      have HC := Aside0.mk hc
      clear hc
      have hlt1 : j < l1.length := by have := HL.out; omega
      have dw : IntKind.i64.wrap ((j : Int) + 1) = (j : Int) + 1 := IntWalk.i64_in _ (by have := H60.out; omega)
      obtain ⟨adp, ep, y0, y1, y2, y3⟩ := at_T25 HR1.out (j : Int) (by omega) (by have := HL.out; omega)
      obtain ⟨adi, ei, x0⟩ := Kd.at_int HR0.out (j : Int) (by omega) (by omega)
      subst ep ei
      simp only [Int.toNat_natCast] at y0 y1 y2 y3 x0
      replace y0 := (HB.out.cell (World.block_lt_of_cell? w _ y0)).trans y0
      replace y1 := (HB.out.cell (World.block_lt_of_cell? w _ y1)).trans y1
      replace y2 := (HB.out.cell (World.block_lt_of_cell? w _ y2)).trans y2
      replace y3 := (HB.out.cell (World.block_lt_of_cell? w _ y3)).trans y3
      replace x0 := (HB.out.cell (World.block_lt_of_cell? w _ x0)).trans x0
      by_cases hc0 : c = 0
      case neg =>
        rw [if_neg hc0] at H
        obtain ⟨⟨u1, u2⟩, hu, H⟩ := Option.bind_eq_some_iff.1 H
        have HD := Aside0.mk hu
        clear hu
        try dsimp only at H
        have dc : (c != 0) = true := by simpa using hc0
        have dc2 : (c == 0) = false := by simpa using hc0
        clear hc0
        have HJ := Aside0.mk hlt
        clear hj
        by_cases h3 : u2 = 0
        case neg =>
          rw [if_neg h3] at H
          have H' := Aside0.mk H
          clear H
          have d3 : (u2 == 0) = false := by simpa using h3
          clear h3
          go_wp2_with (first | (go_at_call 23; refine (sandglassref09_Check.calls k1 _ _ _ _ c _ HC.out).mono ?_; rintro e w2 ⟨rfl, hb⟩; have HB2 := Aside0.mk hb; replace x0 := pw_cell_below hb x0; clear hb y0 y1 y2 y3) | (go_at_call 21; refine (books_Delete.calls k1 (fun k_ => k_ ≠ w1.heap.size) Av cv b (rd l0 (j : Int)) u1 _ _ (Kd.V_map (Kd.V_below HV.out HB2.out) (fun _ hf => hf)) HD.out).mono ?_; rintro e w3 ⟨v, rfl, hv, hb⟩; have HV3 := Aside0.mk hv; have HB3 := Aside0.mk hb; replace x0 := pw_cell_below hb x0; clear hv hb; have HR := Aside0.mk (((VRest.mk HV.out HBLK.out HGL.out HB.out : VRest w w1.heap.size (.cells (last.map Value.bool).toArray 49 (0, 0)) (.slice Av b.length cv) b wr).step HB2.out).put HB3.out HV3.out)))
          go_roundg k1
          case measure => have := HK.out; omega
          case rel => exact ⟨u1, last, j + 1, by first | rfl | (simp; done), H', ⟨by have := HK.out; omega⟩, ⟨HR.out.v⟩, ⟨HR.out.blk⟩, ⟨HL8.out, HJ.out⟩, ⟨HR.out.below⟩⟩
        subst h3
        rw [if_pos rfl] at H
        by_cases hx : 0 ≤ rd l0 (j : Int) ∧ rd l0 (j : Int) < 8 ∧ rdb last (rd l0 (j : Int)) = true
        case neg => rw [if_neg hx] at H; cases H
        rw [if_pos hx] at H
        have H' := Aside0.mk H
        clear H
        obtain ⟨h0, h8, ht⟩ := hx
        have HT := Aside0.mk ht
        have e1 : decide (rd l0 (j : Int) < 0) = false := decide_eq_false (by omega)
        have e2 : decide ((7 : Int) < rd l0 (j : Int)) = false := decide_eq_false (by omega)
        have q0 := eq_true h0
        have q8 := eq_true h8
        have HX := Aside0.mk (And.intro h0 h8)
        clear h0 h8 ht
        go_wp2_with (first | (go_at_call 23; refine (sandglassref09_Check.calls k1 _ _ _ _ c _ HC.out).mono ?_; rintro e w2 ⟨rfl, hb⟩; have HB2 := Aside0.mk hb; replace x0 := pw_cell_below hb x0; clear hb y0 y1 y2 y3) | (go_at_call 21; refine (books_Delete.calls k1 (fun k_ => k_ ≠ w1.heap.size) Av cv b (rd l0 (j : Int)) u1 _ _ (Kd.V_map (Kd.V_below HV.out HB2.out) (fun _ hf => hf)) HD.out).mono ?_; rintro e w3 ⟨v, rfl, hv, hb⟩; have HV3 := Aside0.mk hv; have HB3 := Aside0.mk hb; replace x0 := pw_cell_below hb x0; clear hv hb; have HR := Aside0.mk (((VRest.mk HV.out HBLK.out HGL.out HB.out : VRest w w1.heap.size (.cells (last.map Value.bool).toArray 49 (0, 0)) (.slice Av b.length cv) b wr).step HB2.out).put HB3.out HV3.out); have a0 := arrb_cell HR.out.blk (rd l0 (j : Int)) HX.out.1 (by rw [HL8.out]; exact HX.out.2); rw [HT.out] at a0; have fz := blk_frozen HR.out.blk (rd l0 (j : Int)).toNat))
        go_roundg k1
        case measure => have := HK.out; omega
        case rel =>
          have hs := HR.out.setb HGA.out (rd l0 (j : Int)) false HX.out.1 (by rw [HL8.out]; exact HX.out.2)
          exact ⟨u1, last.set (rd l0 (j : Int)).toNat false, j + 1, by first | rfl | (simp; done), H', ⟨by have := HK.out; omega⟩, ⟨hs.v⟩, ⟨hs.blk⟩, ⟨by rw [List.length_set]; exact HL8.out, HJ.out⟩, ⟨hs.below⟩⟩
      subst hc0
      rw [if_pos rfl] at H
      obtain ⟨⟨t1, t2, t3⟩, hu, H⟩ := Option.bind_eq_some_iff.1 H
      have HS := Aside0.mk hu
      clear hu
      go_wp2_with (first | (go_at_call 23; refine (sandglassref09_Check.calls k1 _ _ _ _ 0 _ HC.out).mono ?_; rintro e w2 ⟨rfl, hb⟩; have HB2 := Aside0.mk hb; replace x0 := pw_cell_below hb x0; replace y0 := pw_cell_below hb y0; replace y1 := pw_cell_below hb y1; replace y2 := pw_cell_below hb y2; replace y3 := pw_cell_below hb y3; clear hb))
      have hr : VRest w w1.heap.size (.cells (last.map Value.bool).toArray 49 (0, 0)) (.slice Av b.length cv) b wr := ⟨HV.out, HBLK.out, HGL.out, HB.out⟩
      have hr2 := hr.step HB2.out
      clear hr
      go_region_held3 (fun w' => w'.cell? (adi.add j) = some (.int .i64 (rd l0 (j : Int))) ∧ w'.cell? (adp.add (j * 4)) = some (.int .i64 (rd_T25 l1 (j : Int)).f0) ∧ w'.cell? ⟨(adp.add (j * 4)).block, (adp.add (j * 4)).off + 1, none⟩ = some (.int .i64 (rd_T25 l1 (j : Int)).f1) ∧ w'.cell? ⟨(adp.add (j * 4)).block, (adp.add (j * 4)).off + 2, none⟩ = some (.int .i64 (rd_T25 l1 (j : Int)).f2) ∧ w'.cell? ⟨(adp.add (j * 4)).block, (adp.add (j * 4)).off + 3, none⟩ = some (.int .i64 (rd_T25 l1 (j : Int)).f3) ∧ VRest w w1.heap.size (.cells (last.map Value.bool).toArray 49 (0, 0)) (.slice Av b.length cv) b w')
        ((first | assumption | exact keepS VRest.step (by assumption) (by assumption) | exact ⟨by go_simp, by go_simp, by go_simp, by go_simp, by go_simp, hr2.step (below_drew (Below.refl _ _))⟩))
        ((go_at_call 19; refine (books_Set.calls k1 (fun k_ => k_ ≠ w1.heap.size) Av cv b (rd l0 (j : Int)) _ _ _ _ t1 t2 t3 _ ?hv HS.out).mono ?_; (case hv => exact Kd.V_map (VRest.v (of6 (by assumption))) (fun _ hf => hf)); rintro e w3 ⟨v, rfl, hv, hb⟩))
      have hr3 := (hr2.step (below_drew (Below.refl _ _))).put hb hv
      have x1 := pw_cell_below hb (show (w2.drew).cell? (adi.add j) = some (.int .i64 (rd l0 (j : Int))) from by go_simp)
      have HR := Aside0.mk hr3
      clear hr2 hr3 hv hb x0 y0 y1 y2 y3
      have HJ := Aside0.mk hlt
      clear hj
      by_cases h3 : t3 = 0
      case neg =>
        try dsimp only at H
        rw [if_neg h3] at H
        have H' := Aside0.mk H
        clear H
        have d3 : (t3 == 0) = false := by simpa using h3
        clear h3
        go_wp2
        go_roundg k1
        case measure => have := HK.out; omega
        case rel => exact ⟨t1, last, j + 1, by first | rfl | (simp; done), H', ⟨by have := HK.out; omega⟩, ⟨HR.out.v⟩, ⟨HR.out.blk⟩, ⟨HL8.out, HJ.out⟩, ⟨HR.out.below⟩⟩
      subst h3
      try dsimp only at H
      rw [if_pos rfl] at H
      by_cases hx : 0 ≤ rd l0 (j : Int) ∧ rd l0 (j : Int) < 8
      case neg => rw [if_neg hx] at H; cases H
      rw [if_pos hx] at H
      have H' := Aside0.mk H
      clear H
      obtain ⟨h0, h8⟩ := hx
      have a0 := arrb_cell HR.out.blk (rd l0 (j : Int)) h0 (by rw [HL8.out]; exact h8)
      have e1 : decide (rd l0 (j : Int) < 0) = false := decide_eq_false (by omega)
      have e2 : decide ((7 : Int) < rd l0 (j : Int)) = false := decide_eq_false (by omega)
      have q0 := eq_true h0
      have q8 := eq_true h8
      have HX := Aside0.mk (And.intro h0 h8)
      clear h0 h8
      have fz := blk_frozen HR.out.blk (rd l0 (j : Int)).toNat
      go_wp2
      go_roundg k1
      case measure => have := HK.out; omega
      case rel =>
        have hs := HR.out.setb HGA.out (rd l0 (j : Int)) true HX.out.1 (by rw [HL8.out]; exact HX.out.2)
        exact ⟨t1, last.set (rd l0 (j : Int)).toNat true, j + 1, by first | rfl | (simp; done), H', ⟨by have := HK.out; omega⟩, ⟨hs.v⟩, ⟨hs.blk⟩, ⟨by rw [List.length_set]; exact HL8.out, HJ.out⟩, ⟨hs.below⟩⟩

end Go.Proofs.Ythplifnhibahpaa.Q
