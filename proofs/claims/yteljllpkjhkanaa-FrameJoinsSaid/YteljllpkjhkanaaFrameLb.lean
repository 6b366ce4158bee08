/- Layer 20: the document's Pieces are a run's; same, all and few in closed form. -/
import Derived.Test.YteljllpkjhkanaaFrameLa
import Derived.Test.YteljllpkjhkanaaQ13
import Derived.Test.YteljllpkjhkanaaQ14
import Derived.Test.YteljllpkjhkanaaQ12
namespace Go.Proofs.Yteljllpkjhkanaa.La
open Go.RowKit Go.Proofs.YteljllpkjhkanaaW.PrintWords Go.Proofs.YteljllpkjhkanaaW.PrintLast Go.Proofs.YteljllpkjhkanaaW.PrintMore Go.Proofs.Yteljllpkjhkanaa.Q
set_option linter.unusedSimpArgs false
set_option linter.unusedVariables false
theorem wr {x : Int} (h0 : -9223372036854775808 ≤ x) (h1 : x < 9223372036854775808) : wrap64 x = x := by unfold wrap64; omega
def cv (p : S37) : S39 := ⟨p.f0, p.f1⟩
theorem wnum {b0 b1 : Int} (h0 : 0 ≤ b0) (h1 : b0 ≤ 255) (h2 : 0 ≤ b1) (h3 : b1 ≤ 255) : wrap64 ((wrap64 (256 * (wrap64 b0))) + (wrap64 b1)) = 256 * b0 + b1 := by
  rw [wr (x := b0) (by omega) (by omega), wr (x := b1) (by omega) (by omega), wr (x := 256 * b0) (by omega) (by omega), wr (by omega) (by omega)]
theorem hd_at {s : ByteArray} {a : Nat} (h : a + 2 ≤ s.size) : hd (s.extract a s.size) = 256 * bt s (a : Int) + bt s ((a : Int) + 1) := by
  have e0 : bt (s.extract a s.size) 0 = bt s ((a + 0 : Nat) : Int) := btE (s := s) (a := a) (i := 0) (by omega)
  have e1 : bt (s.extract a s.size) 1 = bt s ((a + 1 : Nat) : Int) := btE (s := s) (a := a) (i := 1) (by omega)
  rw [Nat.add_zero] at e0
  rw [Int.natCast_add] at e1
  unfold hd
  rw [e0, e1]
  rfl
theorem j1_step (s : ByteArray) (acc : List S39) (k a : Nat) (h : Int) (ha : a + 2 ≤ s.size) (hs : s.size ≤ 100000) (h0 : 0 ≤ h) (h1 : h ≤ 65535) (hacc : acc.length < 5864062014805) (b : Bool) : sandglassref20_Pieces.j1 (k + 1) s acc (a : Int) h b = if b = true then (if a + 2 + h.toNat > s.size then some (acc ++ [⟨ByteArray.empty, 8⟩], 0) else sandglassref20_Pieces.l0 k s (acc ++ [⟨ByteArray.empty, 8⟩]) ((a + (2 + h.toNat) : Nat) : Int)) else if s.size - a - 2 < h.toNat then some (acc, ((s.size - a : Nat) : Int)) else sandglassref20_Pieces.l0 k s (acc ++ [⟨s.extract (a + 2) (a + (2 + h.toNat)), 0⟩]) ((a + (2 + h.toNat) : Nat) : Int) := by
  rw [sandglassref20_Pieces.j1, wr (x := (a : Int) + 2) (by omega) (by omega), wr (x := (a : Int) + 2 + h) (by omega) (by omega), wr (x := (s.size : Int) - a) (by omega) (by omega), wr (x := (s.size : Int) - a - 2) (by omega) (by omega)]
  have hat : (a : Int) + 2 + h = ((a + (2 + h.toNat) : Nat) : Int) := by omega
  have ha2 : ((a : Int) + 2).toNat = a + 2 := by omega
  cases b
  · have ff : ¬ (false = true) := by simp
    rw [if_neg ff, if_neg ff]
    by_cases hw : (s.size : Int) - a - 2 < h
    · rw [if_pos hw, if_pos (by omega)]
      congr 2
      omega
    · rw [if_neg hw, if_pos (show (0 : Int) ≤ (a : Int) + 2 by omega), if_pos (show (a : Int) + 2 ≤ (a : Int) + 2 + h by omega), if_pos (show (a : Int) + 2 + h ≤ (s.size : Int) by omega), if_pos hacc, if_neg (show ¬ s.size - a - 2 < h.toNat by omega), hat, ha2, Int.toNat_natCast]
  · rw [if_pos (rfl : true = true), if_pos (rfl : true = true), if_pos hacc, Option.bind_some]
    by_cases hp : (a : Int) + 2 + h > (s.size : Int)
    · rw [if_pos hp, if_pos (by omega)]
      rfl
    · rw [if_neg hp, if_neg (by omega), hat]
      rfl
theorem l0_short (s : ByteArray) (acc : List S39) (k a : Nat) (hs : s.size ≤ 100000) (ha : a ≤ s.size) (h : s.size - a < 2) : sandglassref20_Pieces.l0 (k + 1) s acc (a : Int) = some (acc, ((s.size - a : Nat) : Int)) := by
  rw [sandglassref20_Pieces.l0, wr (by omega) (by omega), if_neg (by omega)]
  congr 2
  omega
theorem l0_step (s : ByteArray) (acc : List S39) (k a : Nat) (b0 b1 : Int) (hs : s.size ≤ 100000) (ha : a + 2 ≤ s.size) (e0 : bt s (a : Int) = b0) (e1 : bt s ((a : Int) + 1) = b1) (h0 : 0 ≤ b0) (h1 : b0 ≤ 255) (h2 : 0 ≤ b1) (h3 : b1 ≤ 255) : sandglassref20_Pieces.l0 (k + 1) s acc (a : Int) = sandglassref20_Pieces.j1 k s acc (a : Int) (256 * b0 + b1) (decide (256 * b0 + b1 < 1 ∨ 256 * b0 + b1 > 512)) := by
  rw [sandglassref20_Pieces.l0, wr (x := (a : Int) + 1) (by clear e0 e1; omega) (by clear e0 e1; omega), e0, e1]
  clear e0 e1
  rw [wnum h0 h1 h2 h3, wr (x := (s.size : Int) - a) (by omega) (by omega), if_pos (by omega), if_pos (by omega), if_pos (by omega), if_pos (by omega), if_pos (by omega)]
  by_cases hb : 256 * b0 + b1 < 1
  · rw [if_pos hb, decide_eq_true (Or.inl hb)]
  · rw [if_neg hb]
    congr 1
    exact decide_eq_decide.2 ⟨Or.inr, fun h => h.resolve_left hb⟩
theorem pieces_run (s : ByteArray) (hs : s.size ≤ 100000) : ∀ (n a : Nat), a ≤ s.size → s.size - a < n → ∀ acc : List S39, acc.length + (s.size - a) ≤ 1000000 → ∀ k, 2 * n ≤ k → sandglassref20_Pieces.l0 k s acc (a : Int) = some (acc ++ (F (s.extract a s.size) 0 false).2.2.2.map cv, ((F (s.extract a s.size) 0 false).1.size : Int))
  | 0, _, _, h => absurd h (Nat.not_lt_zero _)
  | n + 1, a, ha, hn => by
    intro acc hacc k hk
    obtain ⟨k, rfl⟩ : ∃ q, k = q + 2 := ⟨k - 2, by omega⟩
    have HR := Aside0.mk (szE s a s.size (Nat.le_refl _))
    by_cases h2 : s.size - a < 2
    · rw [l0_short s acc (k + 1) a hs ha h2, F_off (st_short (by rw [HR.out]; exact h2)), HR.out]
      simp
    have H2 := Aside0.mk (show 2 ≤ (s.extract a s.size).size by rw [HR.out]; omega)
    have ha2 : a + 2 ≤ s.size := by omega
    have B0 := Aside0.mk (bt_range s (a : Int))
    have B1 := Aside0.mk (bt_range s ((a : Int) + 1))
    rw [l0_step s acc (k + 1) a _ _ hs ha2 rfl rfl B0.out.1 B0.out.2 B1.out.1 B1.out.2, ← hd_at ha2]
    have SB := Aside0.mk (fun hb => st_bad (l := s.extract a s.size) (sk := 0) H2.out hb)
    have SW := Aside0.mk (fun hb hw => st_wait (l := s.extract a s.size) (sk := 0) H2.out hb hw)
    have SG := Aside0.mk (fun hb hw => st_good (l := s.extract a s.size) (sk := 0) H2.out hb hw)
    have hrg := hd_range (s.extract a s.size)
    clear B0 B1
    generalize hd (s.extract a s.size) = h at *
    rw [j1_step s acc k a h ha2 hs hrg.1 hrg.2 (by omega)]
    have E2 := Aside0.mk (show (s.extract a s.size).extract 2 (s.extract a s.size).size = s.extract (a + 2) s.size by
        rw [HR.out, ex3 (by omega), show a + (s.size - a) = s.size by omega])
    have HR2 := Aside0.mk (szE s (a + 2) s.size (Nat.le_refl _))
    have hm : ∀ b : Nat, a ≤ b → b ≤ s.size → ∀ m : Bool, (a + 2 ≤ b ∨ (a < b ∧ m = false)) → me (s.extract b s.size) m < me (s.extract a s.size) false := by
      intro b hb1 hb2 m hm
      unfold me
      rw [szE _ _ _ (Nat.le_refl _), szE _ _ _ (Nat.le_refl _)]
      rcases hm with hm | ⟨hm, rfl⟩
      · split <;> simp <;> omega
      · simp; omega
    by_cases hb : h < 1 ∨ h > 512
    · rw [decide_eq_true hb, if_pos rfl]
      rw [F_on (SB.out hb) (by rw [E2.out]; exact hm _ (by omega) (by omega) _ (Or.inl (Nat.le_refl _))) hrg.1, E2.out]
      by_cases hp : a + 2 + h.toNat > s.size
      · rw [if_pos hp, F_off (st_passing (by rw [HR2.out]; omega))]
        simp [cv]
      · rw [if_neg hp]
        have HP := Aside0.mk (show h ≤ ((s.extract (a + 2) s.size).size : Int) by rw [HR2.out]; omega)
        have E3 := Aside0.mk (show (s.extract (a + 2) s.size).extract h.toNat (s.extract (a + 2) s.size).size = s.extract (a + (2 + h.toNat)) s.size by
          rw [HR2.out, ex3 (by omega), show a + 2 + (s.size - (a + 2)) = s.size by omega, Nat.add_assoc])
        have HM := Aside0.mk (show me (s.extract (a + (2 + h.toNat)) s.size) false < me (s.extract (a + 2) s.size) true by
          unfold me
          rw [szE _ _ _ (Nat.le_refl _), szE _ _ _ (Nat.le_refl _)]
          simp; omega)
        rw [F_on (st_passed hrg.1 HP.out) (by rw [E3.out]; exact HM.out) (Int.le_refl _), E3.out]
        rw [pieces_run s hs n _ (by omega) (by omega) _ (by rw [List.length_append, List.length_singleton]; omega) k (by omega)]
        simp [cv]
    · rw [decide_eq_false hb, if_neg (by simp)]
      by_cases hw : s.size - a - 2 < h.toNat
      · rw [if_pos hw, F_off (SW.out hb (by rw [HR.out]; omega)), HR.out]
        simp
      · rw [if_neg hw]
        have E3 := Aside0.mk (show (s.extract a s.size).extract (2 + h).toNat (s.extract a s.size).size = s.extract (a + (2 + h.toNat)) s.size by
          rw [HR.out, ex3 (by omega), show a + (s.size - a) = s.size by omega, show (2 + h).toNat = 2 + h.toNat by omega])
        have E4 := Aside0.mk (show (s.extract a s.size).extract 2 (2 + h).toNat = s.extract (a + 2) (a + (2 + h.toNat)) by
          rw [ex3 (by omega), show (2 + h).toNat = 2 + h.toNat by omega])
        rw [F_on (SG.out hb (by rw [HR.out]; omega)) (by rw [E3.out]; exact hm _ (by omega) (by omega) _ (Or.inl (by omega))) (Int.le_refl _), E3.out, E4.out]
        rw [pieces_run s hs n _ (by omega) (by omega) _ (by rw [List.length_append, List.length_singleton]; omega) k (by omega)]
        simp [cv]
theorem pieces_at {k : Nat} {s : ByteArray} (hs : s.size ≤ 100000) (hk : 2 * s.size + 2 ≤ k) : sandglassref20_Pieces.f k s = some ((F s 0 false).2.2.2.map cv, ((F s 0 false).1.size : Int)) := by
  unfold sandglassref20_Pieces.f
  have := pieces_run s hs (s.size + 1) 0 (Nat.zero_le _) (by omega) [] (by rw [List.length_nil]; omega) k (by omega)
  rw [ex6] at this
  simpa using this
theorem rd_cv {l : List S37} {j : Nat} (h : j < l.length) : rd_T39 (l.map cv) (j : Int) = cv (rd_T37 l (j : Int)) := by
  unfold rd_T39 rd_T37
  simp [List.getD_eq_getElem?_getD, h]
theorem same_run (l : List S37) (hl : l.length ≤ 1000000) : ∀ (n j : Nat), j ≤ l.length → l.length - j < n → ∀ k, 2 * n ≤ k → sandglasslaw20_same.l0 k l (l.map cv) (j : Int) = some true
  | 0, _, _, h => absurd h (Nat.not_lt_zero _)
  | n + 1, j, hj, hn => by
    intro k hk
    obtain ⟨k, rfl⟩ : ∃ q, k = q + 2 := ⟨k - 2, by omega⟩
    rw [sandglasslaw20_same.l0]
    by_cases h : j < l.length
    · rw [if_pos (by omega), if_pos (by omega), if_pos (by rw [List.length_map]; omega), rd_cv h, if_pos (by rfl)]
      rw [show ((rd_T37 l (j : Int)).f1 != (cv (rd_T37 l (j : Int))).f1) = false from by simp [cv]]
      rw [sandglasslaw20_same.j1, if_neg (by simp), wr (by omega) (by omega)]
      exact same_run l hl n (j + 1) (by omega) (by omega) k (by omega)
    · rw [if_neg (by omega)]
theorem same_is {k : Nat} {l : List S37} {m : List S39} (hm : m = l.map cv) (hl : l.length ≤ 1000000) (hk : 2 * l.length + 2 ≤ k) : sandglasslaw20_same.f k l m = some true := by
  subst hm
  unfold sandglasslaw20_same.f
  rw [if_pos (by rw [List.length_map])]
  exact same_run l hl (l.length + 1) 0 (Nat.zero_le _) (by omega) k (by omega)
/-- The first j chunks as one. -/
def pre (l : List ByteArray) : Nat → ByteArray
  | 0 => ByteArray.empty
  | j + 1 => pre l j ++ rdOf ByteArray.empty l (j : Int)
theorem pre_le (l : List ByteArray) (i : Nat) : ∀ d, (pre l i).size ≤ (pre l (i + d)).size
  | 0 => Nat.le_refl _
  | d + 1 => by
    have := pre_le l i d
    show _ ≤ (pre l (i + d) ++ rdOf ByteArray.empty l ((i + d : Nat) : Int)).size
    rw [szA]; omega
theorem pre_bd (l : List ByteArray) (h : ∀ j, j < l.length → (rdOf ByteArray.empty l (j : Int)).size ≤ 4000) : ∀ j, j ≤ l.length → (pre l j).size ≤ 4000 * j
  | 0, _ => Nat.zero_le _
  | j + 1, hj => by
    have := pre_bd l h j (by omega)
    have := h j (by omega)
    show (pre l j ++ rdOf ByteArray.empty l (j : Int)).size ≤ _
    rw [szA]; omega
theorem all_run (l : List ByteArray) (h40 : l.length ≤ 40) (h : ∀ j, j < l.length → (rdOf ByteArray.empty l (j : Int)).size ≤ 4000) : ∀ (n j : Nat), j ≤ l.length → l.length - j < n → ∀ k, n ≤ k → sandglasslaw20_all.l0 k l (pre l j) (j : Int) = some (pre l l.length)
  | 0, _, _, h => absurd h (Nat.not_lt_zero _)
  | n + 1, j, hj, hn => by
    intro k hk
    obtain ⟨k, rfl⟩ : ∃ q, k = q + 1 := ⟨k - 1, by omega⟩
    rw [sandglasslaw20_all.l0]
    by_cases hlt : j < l.length
    · have := pre_bd l h j (by omega)
      have := h j hlt
      rw [if_pos (by omega), if_pos (by omega), if_pos (by omega), wr (by omega) (by omega)]
      exact all_run l h40 h n (j + 1) (by omega) (by omega) k (by omega)
    · rw [if_neg (by omega)]
      rw [show j = l.length by omega]
theorem few_at {k : Nat} {l : List ByteArray} (h40 : l.length ≤ 40) (h : ∀ j, j < l.length → (rdOf ByteArray.empty l (j : Int)).size ≤ 4000) (hk : 50 ≤ k) : sandglasslaw20_few.f k l = some (decide ((pre l l.length).size ≤ 4000)) := by
  unfold sandglasslaw20_few.f sandglasslaw20_all.f
  rw [if_pos (by omega)]
  have := all_run l h40 h (l.length + 1) 0 (Nat.zero_le _) (by omega) k (by omega)
  rw [show (⟨#[]⟩ : ByteArray) = pre l 0 from rfl, show (0 : Int) = ((0 : Nat) : Int) from rfl, this, Option.bind_some]
  congr 1
  exact decide_eq_decide.2 (by omega)
end Go.Proofs.Yteljllpkjhkanaa.La
