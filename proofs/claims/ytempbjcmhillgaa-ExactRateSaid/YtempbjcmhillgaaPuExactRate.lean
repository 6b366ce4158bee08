/- ExactRate: proved of the printed functions. -/
import Derived.Test.YtempbjcmhillgaaStExactRate
import Derived.Test.YtempbjcmhillgaaExactTa
namespace Go.Proofs.Ytempbjcmhillgaa.exactRate
open Go.RowKit Go.Proofs.YtempbjcmhillgaaW.PrintWords Go.Proofs.YtempbjcmhillgaaW.PrintLast Go.Proofs.YtempbjcmhillgaaW.PrintMore Go.Proofs.Ytempbjcmhillgaa.Q Go.Proofs.Ytempbjcmhillgaa.La
set_option linter.unusedSimpArgs false
set_option linter.unusedVariables false
/-- What was let in behind c. -/
def sg (c : Int) : List Int → List Int → Int
  | x :: xs, y :: ys => (if x > c then y else 0) + sg c xs ys
  | _, _ => 0
theorem sg_snoc {c x y : Int} : ∀ {xs ys : List Int}, xs.length = ys.length → sg c (xs ++ [x]) (ys ++ [y]) = sg c xs ys + if x > c then y else 0 := by
  intro xs
  induction xs with
  | nil => intro ys h; cases ys with
    | nil => simp [sg]
    | cons z zs => simp at h
  | cons u us ih => intro ys h; cases ys with
    | nil => simp at h
    | cons z zs => simp only [List.cons_append, sg]; rw [ih (by simpa using h)]; omega
theorem rd_cons (l : List Int) (i : Nat) (h : i < l.length) : l.drop i = rd l (i : Int) :: l.drop (i + 1) := by
  rw [List.drop_eq_getElem_cons h]
  simp [rd, List.getD_eq_getElem?_getD, List.getElem?_eq_getElem h]
theorem rd_memI (l : List Int) (i : Nat) (h : i < l.length) : rd l (i : Int) ∈ l := by
  have := List.getElem_mem h
  simp [rd, List.getD_eq_getElem?_getD, List.getElem?_eq_getElem h]
theorem since_snoc {c : Int} {m : List S50} {y : S50} (h : c < y.f0) : since c (m ++ [y]) = since c m ++ [y] := by
  induction m with
  | nil => exact since_cons_gt h
  | cons x t ih =>
    by_cases hx : x.f0 ≤ c
    · rw [List.cons_append, since_cons_le hx, since_cons_le hx, ih]
    · rw [List.cons_append, since_cons_gt (by omega), since_cons_gt (by omega), List.cons_append]
theorem since_since {c c' : Int} (h : c' ≤ c) (l : List S50) : since c (since c' l) = since c l := by
  induction l with
  | nil => rfl
  | cons x t ih =>
    by_cases hx : x.f0 ≤ c'
    · rw [since_cons_le hx, ih, since_cons_le (by omega)]
    · rw [since_cons_gt (by omega)]
theorem since_add {c t x : Int} {r : List S50} (h : ∀ z ∈ r, z.f0 ≤ t) : cnt (since c (addL t x r)) = cnt (since c r) + if t > c then x else 0 := by
  by_cases hc : t > c
  · rw [if_pos hc]
    rcases snoc_cases r with rfl | ⟨m, y, rfl⟩
    · rw [addL_nil, since_cons_gt (by exact hc)]; simp [since_nil, cnt]
    · rw [addL_snoc]
      split
      · rename_i he
        rw [since_snoc (by exact hc), since_snoc (by omega), cnt_append, cnt_append]; simp only [cnt]; omega
      · rename_i he
        rw [show m ++ [y, (⟨t, x⟩ : S50)] = (m ++ [y]) ++ [⟨t, x⟩] by simp, since_snoc (by exact hc), cnt_append]; simp only [cnt]; omega
  · rw [if_neg hc, since_none (fun z hz => by
      rcases add_mem z hz with h3 | h3
      · omega
      · have := h z h3; omega), since_none (fun z hz => by have := h z hz; omega)]
    simp [cnt]
theorem inner {M : Nat} {L : List S45} {t k l w b a0 a1 : Int} {a2 : List Int} {a3 : List S50} {ts ws : List Int} {i : Nat} (h0 : ts.length = i) (h1 : ws.length = i) (hi : i ≤ 40) (ht : 0 ≤ t ∧ t ≤ 1099511627776) (hw : 0 ≤ w ∧ w ≤ 1048576) (hws : ∀ x ∈ ws, 0 ≤ x ∧ x ≤ 1048576) : ∀ (d j : Nat) (n : Int), i - j = d → j ≤ i → 0 ≤ n → n ≤ 1048576 * j →
    sandglasslaw13_ExactRate.l1 (M + d) L t ts ws (i : Int) n (j : Int) k l w b a0 a1 a2 a3 = sandglasslaw13_ExactRate.l1 M L t ts ws (i : Int) (n + sg (t - w) (ts.drop j) (ws.drop j)) (i : Int) k l w b a0 a1 a2 a3 := by
  intro d
  induction d with
  | zero =>
    intro j n hd hj n0 n1
    have : j = i := by omega
    subst this
    rw [List.drop_eq_nil_of_le (by omega)]
    simp [sg]
  | succ d ih =>
    intro j n hd hj n0 n1
    rw [rd_cons ts j (by omega), rd_cons ws j (by omega)]
    have hb := hws _ (rd_memI ws j (by omega))
    rw [show M + (d + 1) = (M + d) + 1 from rfl, sandglasslaw13_ExactRate.l1]
    rw [if_pos (show (j : Int) < i by omega), if_pos (show 0 ≤ (j : Int) by omega), if_pos (show (j : Int) < (ts.length : Int) by omega), wr (x := t - w) (by omega) (by omega), wr (x := n + rd ws j) (by omega) (by omega), wr (x := (j : Int) + 1) (by omega) (by omega), show (j : Int) + 1 = ((j + 1 : Nat) : Int) by omega]
    simp only [sg]
    by_cases hg : rd ts j > t - w
    · rw [if_pos hg, if_pos hg, if_pos (show (j : Int) < (ws.length : Int) by omega), ih (j + 1) _ (by omega) (by omega) (by omega) (by omega), Int.add_assoc]
    · rw [if_neg hg, if_neg hg, ih (j + 1) _ (by omega) (by omega) (by omega) (by omega), Int.zero_add]
theorem short {n : Nat} (h : n ≤ 40) : n < 17592186044416 := Nat.lt_of_le_of_lt h (by decide)
theorem loop {k l w b : Int} (L : List S45) (hL : L.length ≤ 40) : ∀ (d i N : Nat) (t : Int) (ts ws : List Int) (h : List S50), L.length - i = d → i ≤ L.length → 2300 + 50 * d ≤ N → ts.length = i → ws.length = i → 0 ≤ t → t ≤ 1048576 * i → mayF k l w b t 0 [] h = true → (∀ x ∈ ws, 0 ≤ x ∧ x ≤ 1048576) → (∀ c, t - w ≤ c → sg c ts ws = cnt (since c h)) →
    sandglasslaw13_ExactRate.l0 N L t ts ws (i : Int) k l w b t 0 [] h = some true := by
  intro d
  induction d with
  | zero =>
    intro i N t ts ws h hd hi hN _ _ _ _ _ _ _
    obtain ⟨n, rfl⟩ : ∃ n, N = n + 1 := ⟨N - 1, by omega⟩
    rw [sandglasslaw13_ExactRate.l0, if_neg (by omega), live_at (by omega), Option.bind_some]
  | succ d ih =>
    intro i N t ts ws h hd hi hN hts hws t0 t1 hm hb hs
    obtain ⟨n, rfl⟩ : ∃ n, N = n + 3 + i + 2 := ⟨N - i - 5, by omega⟩
    have J2t : sandglasslaw13_ExactRate.j2 (n + 3 + i + 1) L t ts ws (i : Int) true k l w b t 0 [] h = some true := by
      rw [show n + 3 + i + 1 = (n + 3 + i) + 1 from rfl, sandglasslaw13_ExactRate.j2, if_pos rfl, live_at (by omega), Option.bind_some]
    rw [show n + 3 + i + 2 = (n + 3 + i + 1) + 1 from rfl, sandglasslaw13_ExactRate.l0, if_pos (by omega), if_pos (by omega)]
    obtain ⟨e, he⟩ : ∃ e, rd_T45 L (i : Int) = e := ⟨_, rfl⟩
    rw [he]
    by_cases e0 : e.f0 < 0
    · rw [if_pos e0]; exact J2t
    by_cases e1 : e.f0 > 1048576
    · rw [if_neg e0, if_pos e1]; exact J2t
    rw [if_neg e0, if_neg e1, weigh_r, Option.bind_some]
    cases hx : weighF e.f1
    · exact J2t
    have hx' := weigh_is.1 hx
    obtain ⟨hk, l0, l1, w0, w1, a0, a1, hv, hs', ho, hc⟩ := may_is hm
    have hmem := okL_mem ho
    have hlen := cnt_len (fun z hz => (hmem z hz).2.2.1)
    have hmx := mx_le (-1) (t - w)
    rw [Bool.not_true, show n + 3 + i + 1 = (n + 3 + i) + 1 from rfl, sandglasslaw13_ExactRate.j2, if_neg (by simp), if_pos (by omega), if_pos (by omega), he, wr (x := t + e.f0) (by omega) (by omega)]
    obtain ⟨u, hu⟩ : ∃ u, t + e.f0 = u := ⟨_, rfl⟩
    have hin := inner (M := n + 3) (L := L) (t := u) (k := k) (l := l) (w := w) (b := b) (a0 := t) (a1 := 0) (a2 := []) (a3 := h) hts hws (by omega) (by omega) (by omega) hb i 0 0 (by omega) (by omega) (by omega) (by omega)
    rw [show ((0 : Nat) : Int) = 0 from rfl] at hin
    rw [hu, hin, List.drop_zero, List.drop_zero, hs (u - w) (by omega), Int.zero_add]
    have hmu : mx u t = u := by unfold mx; split <;> omega
    have tu : timeF u = true := time_is.2 (by omega)
    have eA := askF_R l w t h u e.f1
    rw [hmu] at eA
    have hr := okL_since (c := u - w) ho
    have hrl := since_len (u - w) h
    have hcr := since_cnt (c := u - w) ho
    have hss : ∀ c, u - w ≤ c → cnt (since c (since (u - w) h)) = cnt (since c h) := fun c hc => by rw [since_since hc]
    generalize since (u - w) h = r at hr hrl hcr eA hss ⊢
    have hmr := okL_mem hr.1
    have hc0 := cnt_nonneg (fun z hz => (hmr z hz).2.2.1)
    have hor : okL l u (mx (-1) (u - w)) r = true := okL_up (okL_low hr.1 (fun z hz => by have := hmr z hz; have := hr.2 z hz; unfold mx; split <;> omega)) (fun z hz => by have := hmr z hz; omega)
    have b1 : ts.length ≤ 40 := by omega
    have b2 : ws.length ≤ 40 := by omega
    by_cases c1 : cnt r + e.f1 ≤ l
    · rw [askR_pos c1] at eA
      have hoq : okL l u (mx (-1) (u - w)) (addL u e.f1 r) = true := okL_add hor (by unfold mx; split <;> omega) c1 hx'.1
      have hcq := cnt_add u e.f1 r
      have hlq := add_len u e.f1 r
      have hm2 : mayF k l w b u 0 [] (addL u e.f1 r) = true := may_to hm (by omega) (by omega) hoq (by omega)
      have hlen2 := cnt_len (fun z hz => (okL_mem hoq z hz).2.2.1)
      rw [show n + 3 = (n + 2) + 1 from rfl, sandglasslaw13_ExactRate.l1, if_neg (by omega), if_pos (by omega), if_pos (by omega), he, ask_f (by omega) k l w b t 0 [] h u e.f1 (by omega), Option.bind_some, ask_is hm tu hx, eA, wr (x := cnt r + e.f1) (by omega) (by omega), decide_eq_true c1, if_pos (short b1), Option.bind_some]
      rw [if_neg (by simp)]
      first | rw [if_pos rfl] | rw [if_neg (by simp)]
      rw [if_pos (short b2)]
      rw [show n + 2 = (n + 1) + 1 from rfl, sandglasslaw13_ExactRate.j4]
      dsimp only
      rw [hcq, wr (x := l - (cnt r + e.f1)) (by omega) (by omega), if_pos rfl, if_neg (by omega), decide_eq_false (by omega), sandglasslaw13_ExactRate.j5, if_neg (by simp), show wrap64 ((i : Int) + 1) = ((i + 1 : Nat) : Int) by rw [wr (by omega) (by omega)]; omega]
      refine ih (i + 1) n u _ _ _ (by omega) (by omega) (by omega) (by simp [hts]) (by simp [hws]) (by omega) (by omega) hm2 (fun z hz => ?_) (fun c hc => ?_)
      · rcases List.mem_append.1 hz with h3 | h3
        · exact hb z h3
        · simp at h3; omega
      · rw [sg_snoc (by omega), since_add (fun z hz => by have := hmr z hz; omega), hss c hc, hs c (by omega)]
    · rw [askR_neg c1] at eA
      have hm2 : mayF k l w b u 0 [] r = true := may_to hm (by omega) (by omega) hor (by omega)
      have hlen2 := cnt_len (fun z hz => (hmr z hz).2.2.1)
      rw [show n + 3 = (n + 2) + 1 from rfl, sandglasslaw13_ExactRate.l1, if_neg (by omega), if_pos (by omega), if_pos (by omega), he, ask_f (by omega) k l w b t 0 [] h u e.f1 (by omega), Option.bind_some, ask_is hm tu hx, eA, wr (x := cnt r + e.f1) (by omega) (by omega), decide_eq_false c1, if_pos (short b1), Option.bind_some]
      rw [if_neg (by simp)]
      first | rw [if_pos rfl] | rw [if_neg (by simp)]
      rw [if_pos (short b2)]
      rw [show n + 2 = (n + 1) + 1 from rfl, sandglasslaw13_ExactRate.j4]
      dsimp only
      rw [wr (x := l - cnt r) (by omega) (by omega), if_pos rfl, if_neg (by omega), decide_eq_false (by omega), sandglasslaw13_ExactRate.j5, if_neg (by simp), show wrap64 ((i : Int) + 1) = ((i + 1 : Nat) : Int) by rw [wr (by omega) (by omega)]; omega]
      refine ih (i + 1) n u _ _ _ (by omega) (by omega) (by omega) (by simp [hts]) (by simp [hws]) (by omega) (by omega) hm2 (fun z hz => ?_) (fun c hc => ?_)
      · rcases List.mem_append.1 hz with h3 | h3
        · exact hb z h3
        · simp at h3; omega
      · rw [sg_snoc (by omega), hss c hc, hs c (by omega)]; split <;> omega
theorem pure : Pure := by
  intro k l w b L _ _ _ _ wL
  refine ⟨5000, ?_⟩
  have T : ∀ x0 x1 x2 x3, sandglasslaw13_ExactRate.j0 5000 L true x0 x1 x2 x3 = some true := by
    intros
    simp only [show (5000 : Nat) = 4999 + 1 from rfl, sandglasslaw13_ExactRate.j0, if_true, live_at (show 40 ≤ 4999 by omega), Option.bind_some]
  unfold sandglasslaw13_ExactRate.f
  by_cases hL : (L.length : Int) > 40
  · rw [if_pos hL, T]
  rw [if_neg hL, show (5000 : Nat) = 4997 + 3 from rfl, refCheck, Option.bind_some]
  rw [show (4997 : Nat) + 3 = 5000 from rfl]
  cases hp : polOk k l w b
  · simp [T]
  rw [if_pos rfl, if_pos rfl]
  by_cases hk : k = 4
  · have q := pol_is hp
    have hm : mayF k l w b 0 0 [] [] = true := by
      unfold mayF timeF
      rw [hp, decide_eq_true hk]
      simp only [okL, cnt, List.length_nil]
      simp
      exact decide_eq_true (by omega)
    rw [show (k != 4) = false by simp [hk]]
    rw [show (5000 : Nat) = 4999 + 1 from rfl, sandglasslaw13_ExactRate.j0, if_neg (by simp)]
    exact loop L (by omega) L.length 0 4999 0 [] [] [] (by omega) (by omega) (by omega) rfl rfl (by omega) (by omega) hm (by simp) (fun c _ => by simp [sg, since_nil, cnt])
  · rw [show (k != 4) = true by simp [hk], T]
end Go.Proofs.Ytempbjcmhillgaa.exactRate
