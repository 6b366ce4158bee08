/- A reader's run (layer 20), told without fuel; that it goes on the same however its bytes are cut. -/
import Derived.Test.YteljllpkjhkanaaQ6
import Derived.IntWalk
namespace Go.Proofs.Yteljllpkjhkanaa.La
open Go.RowKit Go.Proofs.YteljllpkjhkanaaW.PrintWords Go.Proofs.YteljllpkjhkanaaW.PrintLast Go.Proofs.YteljllpkjhkanaaW.PrintMore Go.Proofs.Yteljllpkjhkanaa.Q
set_option linter.unusedSimpArgs false
set_option linter.unusedVariables false
theorem bx {a b : ByteArray} (h : a.data.toList = b.data.toList) : a = b := by
  obtain ⟨⟨a⟩⟩ := a; obtain ⟨⟨b⟩⟩ := b
  simp only at h
  rw [h]
theorem sz (s : ByteArray) : s.size = s.data.toList.length := by simp
theorem exD (s : ByteArray) (a b : Nat) : (s.extract a b).data.toList = (s.data.toList.drop a).take (b - a) := by simp
theorem apD (s t : ByteArray) : (s ++ t).data.toList = s.data.toList ++ t.data.toList := by simp
theorem szA (s t : ByteArray) : (s ++ t).size = s.size + t.size := ByteArray.size_append
theorem szE (s : ByteArray) (a b : Nat) (h : b ≤ s.size) : (s.extract a b).size = b - a := by rw [ByteArray.size_extract]; omega
theorem ex1 {l : ByteArray} (d : ByteArray) {a b : Nat} (h : b ≤ l.size) : (l ++ d).extract a b = l.extract a b := by
  apply bx
  rw [exD, exD, apD]
  by_cases ha : a ≤ l.size
  · rw [List.drop_append_of_le_length (by rw [← sz]; exact ha), List.take_append_of_le_length (by rw [List.length_drop, ← sz]; omega)]
  · rw [show b - a = 0 by omega]; simp
theorem ex2 {l : ByteArray} (d : ByteArray) {a : Nat} (h : a ≤ l.size) : (l ++ d).extract a (l ++ d).size = l.extract a l.size ++ d := by
  apply bx
  rw [exD, apD, apD, exD, List.drop_append_of_le_length (by rw [← sz]; exact h), List.take_of_length_le (by rw [List.length_append, List.length_drop, szA, ← sz, ← sz]; omega), List.take_of_length_le (by rw [List.length_drop, ← sz]; omega)]
theorem ex3 {s : ByteArray} {a b c : Nat} (h : a + c ≤ s.size) : (s.extract a s.size).extract b c = s.extract (a + b) (a + c) := by
  apply bx
  rw [exD, exD, exD, List.take_of_length_le (l := s.data.toList.drop a) (by rw [List.length_drop, ← sz]; omega), List.drop_drop, show a + c - (a + b) = c - b by omega]
theorem ex5 {s : ByteArray} {a b : Nat} (h : a ≤ b) (hb : b ≤ s.size) : s.extract 0 a ++ s.extract a b = s.extract 0 b := by
  apply bx
  rw [apD, exD, exD, exD, List.drop_zero]
  have := List.take_add (l := s.data.toList) (i := a) (j := b - a)
  rw [show a + (b - a) = b by omega] at this
  simpa using this.symm
theorem ex6 (s : ByteArray) : s.extract 0 s.size = s := by
  apply bx
  rw [exD, List.drop_zero, List.take_of_length_le (by rw [← sz]; omega)]
theorem ex0 (s : ByteArray) (a : Nat) : s.extract a a = ByteArray.empty := by
  apply bx
  rw [exD, Nat.sub_self, List.take_zero]; rfl
theorem exN (s : ByteArray) {a : Nat} (h : s.size ≤ a) : s.extract a s.size = ByteArray.empty := by
  apply bx
  rw [exD, show s.size - a = 0 by omega, List.take_zero]; rfl
theorem emA (s : ByteArray) : ByteArray.empty ++ s = s := by apply bx; rw [apD]; rfl
theorem bt_is (s : ByteArray) (i : Nat) (h : i < s.size) : bt s i = ((s.data.toList.getD i 0).toNat : Int) := by
  unfold bt
  rw [dif_pos (by simpa using h)]
  rw [List.getD_eq_getElem?_getD, List.getElem?_eq_getElem (by simpa using h)]; rfl
def wideL (x : Int) (w : Nat) : List Int := (List.range w).map fun i => x / 256 ^ (w - 1 - i) % 256
theorem btA {l : ByteArray} (d : ByteArray) {i : Nat} (h : i < l.size) : bt (l ++ d) i = bt l i := by
  rw [bt_is _ _ (by rw [szA]; omega), bt_is _ _ h, apD, List.getD_eq_getElem?_getD, List.getD_eq_getElem?_getD, List.getElem?_append_left (by rw [← sz]; exact h)]
theorem btE {s : ByteArray} {a i : Nat} (h : a + i < s.size) : bt (s.extract a s.size) i = bt s ((a + i : Nat) : Int) := by
  rw [bt_is _ _ (by rw [szE _ _ _ (Nat.le_refl _)]; omega), bt_is _ _ h, exD, List.take_of_length_le (by rw [List.length_drop, ← sz]; omega)]
  simp [List.getD_eq_getElem?_getD]
/-- The number that stands in front. -/
def hd (l : ByteArray) : Int := 256 * bt l 0 + bt l 1
theorem hd_range (l : ByteArray) : 0 ≤ hd l ∧ hd l ≤ 65535 := by
  have := bt_range l 0
  have := bt_range l 1
  unfold hd; omega
theorem hdA {l : ByteArray} (d : ByteArray) (h : 2 ≤ l.size) : hd (l ++ d) = hd l := by
  have e0 := btA d (show 0 < l.size by omega)
  have e1 := btA d (show 1 < l.size by omega)
  unfold hd
  exact congr (congrArg HAdd.hAdd (congrArg (256 * ·) e0)) e1
theorem st_passed {l : ByteArray} {sk : Int} (h0 : 0 ≤ sk) (h : sk ≤ (l.size : Int)) : stepF l sk true = ((ByteArray.empty, 0), false, true, l.extract sk.toNat l.size, 0, false) := by
  have e : mn sk (l.size : Int) = sk := by unfold mn; rw [if_neg (by omega)]
  unfold stepF
  rw [if_pos rfl]
  simp only [e, Int.sub_self]
  rfl
theorem st_passing {l : ByteArray} {sk : Int} (h : (l.size : Int) < sk) : stepF l sk true = ((ByteArray.empty, 0), false, false, ByteArray.empty, sk - (l.size : Int), true) := by
  have e : mn sk (l.size : Int) = (l.size : Int) := by unfold mn; rw [if_pos h]
  unfold stepF
  rw [if_pos rfl]
  simp only [e, Int.toNat_natCast, exN l (Nat.le_refl _)]
  rw [decide_eq_true (show sk - (l.size : Int) > 0 by omega)]
  rfl
theorem st_short {l : ByteArray} {sk : Int} (h : l.size < 2) : stepF l sk false = ((ByteArray.empty, 0), false, false, l, sk, false) := by
  unfold stepF
  rw [if_neg (by simp), if_pos h]
theorem st_bad {l : ByteArray} {sk : Int} (h : 2 ≤ l.size) (hb : hd l < 1 ∨ hd l > 512) : stepF l sk false = ((ByteArray.empty, 8), true, true, l.extract 2 l.size, hd l, true) := by
  unfold stepF
  rw [if_neg (by simp), if_neg (by omega)]
  exact if_pos hb
theorem st_wait {l : ByteArray} {sk : Int} (h : 2 ≤ l.size) (hb : ¬ (hd l < 1 ∨ hd l > 512)) (hw : (l.size : Int) - 2 < hd l) : stepF l sk false = ((ByteArray.empty, 0), false, false, l, sk, false) := by
  unfold stepF
  rw [if_neg (by simp), if_neg (by omega)]
  exact (if_neg hb).trans (if_pos hw)
theorem st_good {l : ByteArray} {sk : Int} (h : 2 ≤ l.size) (hb : ¬ (hd l < 1 ∨ hd l > 512)) (hw : ¬ (l.size : Int) - 2 < hd l) : stepF l sk false = ((l.extract 2 (2 + hd l).toNat, 0), true, true, l.extract (2 + hd l).toNat l.size, sk, false) := by
  unfold stepF
  rw [if_neg (by simp), if_neg (by omega)]
  exact (if_neg hb).trans (if_neg hw)
/-- What a run gives: what is left, to be passed over, how it goes on; its pieces. -/
def fp : Nat → ByteArray → Int → Bool → ByteArray × Int × Bool × List S37
  | 0, l, sk, m => (l, sk, m, [])
  | n + 1, l, sk, m => if (stepF l sk m).2.2.1 = true then ((fp n (stepF l sk m).2.2.2.1 (stepF l sk m).2.2.2.2.1 (stepF l sk m).2.2.2.2.2).1, (fp n (stepF l sk m).2.2.2.1 (stepF l sk m).2.2.2.2.1 (stepF l sk m).2.2.2.2.2).2.1, (fp n (stepF l sk m).2.2.2.1 (stepF l sk m).2.2.2.2.1 (stepF l sk m).2.2.2.2.2).2.2.1, (if (stepF l sk m).2.1 = true then [⟨(stepF l sk m).1.1, (stepF l sk m).1.2⟩] else []) ++ (fp n (stepF l sk m).2.2.2.1 (stepF l sk m).2.2.2.2.1 (stepF l sk m).2.2.2.2.2).2.2.2) else ((stepF l sk m).2.2.2.1, (stepF l sk m).2.2.2.2.1, (stepF l sk m).2.2.2.2.2, [])
def me (l : ByteArray) (m : Bool) : Nat := 2 * l.size + (if m = true then 1 else 0)
/-- A step either stands, whatever follows; or goes on, and does so whatever follows. -/
theorem step_cases (l : ByteArray) (sk : Int) (m : Bool) (h0 : 0 ≤ sk) :
    (∃ l' sk' m', stepF l sk m = ((ByteArray.empty, 0), false, false, l', sk', m') ∧ (∀ d, stepF (l ++ d) sk m = stepF (l' ++ d) sk' m') ∧ l'.size ≤ l.size ∧ 0 ≤ sk' ∧ (m = false → sk' = sk ∧ m' = false)) ∨
    (∃ p is l' sk' m', stepF l sk m = (p, is, true, l', sk', m') ∧ (∀ d, stepF (l ++ d) sk m = (p, is, true, l' ++ d, sk', m')) ∧ me l' m' < me l m ∧ 0 ≤ sk' ∧ l'.size + (if is = true then 2 else 0) ≤ l.size ∧ p.1.size ≤ l.size ∧ (m = false → p.2 = 0 → sk' = sk ∧ m' = false) ∧ (m = false → is = true)) := by
  cases m
  · by_cases h2 : l.size < 2
    · exact Or.inl ⟨l, sk, false, st_short h2, fun d => rfl, Nat.le_refl _, h0, fun _ => ⟨rfl, rfl⟩⟩
    have h2' : 2 ≤ l.size := by omega
    have hr := hd_range l
    by_cases hb : hd l < 1 ∨ hd l > 512
    · refine Or.inr ⟨_, _, _, _, _, st_bad h2' hb, fun d => ?_, ?_, hr.1, ?_, ?_, ?_, fun _ => rfl⟩
      · rw [st_bad (by rw [szA]; omega) (by rw [hdA d h2']; exact hb), hdA d h2', ex2 d h2']
      · unfold me; rw [szE _ _ _ (Nat.le_refl _)]; simp; omega
      · rw [szE _ _ _ (Nat.le_refl _)]; simp; omega
      · exact Nat.zero_le _
      · intro _ h; cases h
    · by_cases hw : (l.size : Int) - 2 < hd l
      · exact Or.inl ⟨l, sk, false, st_wait h2' hb hw, fun d => rfl, Nat.le_refl _, h0, fun _ => ⟨rfl, rfl⟩⟩
      · refine Or.inr ⟨_, _, _, _, _, st_good h2' hb hw, fun d => ?_, ?_, h0, ?_, ?_, fun _ _ => ⟨rfl, rfl⟩, fun _ => rfl⟩
        · rw [st_good (by rw [szA]; omega) (by rw [hdA d h2']; exact hb) (by rw [hdA d h2', szA]; omega), hdA d h2', ex2 d (by omega), ex1 d (by omega)]
        · unfold me; rw [szE _ _ _ (Nat.le_refl _)]; simp; omega
        · rw [szE _ _ _ (Nat.le_refl _)]; simp; omega
        · rw [szE _ _ _ (by omega)]; omega
  · by_cases hs : sk ≤ (l.size : Int)
    · refine Or.inr ⟨_, _, _, _, _, st_passed h0 hs, fun d => ?_, ?_, Int.le_refl _, ?_, Nat.zero_le _, (fun h => by cases h), (fun h => by cases h)⟩
      · rw [st_passed h0 (by rw [szA]; omega), ex2 d (by omega)]
      · unfold me; rw [szE _ _ _ (Nat.le_refl _)]; simp; omega
      · rw [szE _ _ _ (Nat.le_refl _)]; simp
    · refine Or.inl ⟨_, _, _, st_passing (by omega), fun d => ?_, Nat.zero_le _, by omega, fun h => by cases h⟩
      rw [emA]
      by_cases h3 : sk ≤ ((l ++ d).size : Int)
      · have h4 : sk - (l.size : Int) ≤ (d.size : Int) := by rw [szA] at h3; omega
        rw [st_passed h0 h3, st_passed (by omega) h4]
        have : (l ++ d).extract sk.toNat (l ++ d).size = d.extract (sk - (l.size : Int)).toNat d.size := by
          apply bx
          rw [exD, exD, apD, List.drop_append, List.drop_eq_nil_of_le (by rw [← sz]; omega), List.nil_append, ← sz, show sk.toNat - l.size = (sk - (l.size : Int)).toNat by omega, show (l ++ d).size - sk.toNat = d.size - (sk - (l.size : Int)).toNat by rw [szA]; omega]
        rw [this]
      · have h4 : (d.size : Int) < sk - (l.size : Int) := by rw [szA] at h3; omega
        rw [st_passing (by omega), st_passing h4, szA]
        simp only [Int.natCast_add]
        rw [show sk - ((l.size : Int) + (d.size : Int)) = sk - (l.size : Int) - (d.size : Int) by omega]
def F (l : ByteArray) (sk : Int) (m : Bool) := fp (me l m + 1) l sk m
theorem fp_fuel : ∀ (n1 n2 : Nat) (l : ByteArray) (sk : Int) (m : Bool), 0 ≤ sk → me l m < n1 → me l m < n2 → fp n1 l sk m = fp n2 l sk m
  | 0, _, _, _, _, _, h, _ => absurd h (Nat.not_lt_zero _)
  | _ + 1, 0, _, _, _, _, _, h => absurd h (Nat.not_lt_zero _)
  | n1 + 1, n2 + 1, l, sk, m, h0, h1, h2 => by
    rcases step_cases l sk m h0 with ⟨l', sk', m', hs, _⟩ | ⟨p, is, l', sk', m', hs, _, hm, hk, _⟩
    · simp only [fp, hs]; rfl
    · have := fp_fuel n1 n2 l' sk' m' hk (by omega) (by omega)
      simp only [fp, hs, this]
theorem F_off {l : ByteArray} {sk : Int} {m : Bool} {p l' sk' m' is} (hs : stepF l sk m = (p, is, false, l', sk', m')) : F l sk m = (l', sk', m', []) := by
  unfold F
  simp only [fp, hs]
  rfl
theorem F_on {l : ByteArray} {sk : Int} {m : Bool} {p is l' sk' m'} (hs : stepF l sk m = (p, is, true, l', sk', m')) (hm : me l' m' < me l m) (hk : 0 ≤ sk') : F l sk m = ((F l' sk' m').1, (F l' sk' m').2.1, (F l' sk' m').2.2.1, (if is = true then [⟨p.1, p.2⟩] else []) ++ (F l' sk' m').2.2.2) := by
  have e : F l' sk' m' = fp (me l m) l' sk' m' := fp_fuel _ _ _ _ _ hk (by omega) hm
  rw [e]
  unfold F
  simp only [fp, hs]
  rfl
theorem F_step {l1 l2 : ByteArray} {sk1 sk2 : Int} {m1 m2 : Bool} (h : stepF l1 sk1 m1 = stepF l2 sk2 m2) (h1 : 0 ≤ sk1) (h2 : 0 ≤ sk2) : F l1 sk1 m1 = F l2 sk2 m2 := by
  rcases step_cases l1 sk1 m1 h1 with ⟨l', sk', m', hs, _⟩ | ⟨p, is, l', sk', m', hs, _, hm, hk, _⟩
  · rw [F_off hs, F_off (h ▸ hs)]
  · rcases step_cases l2 sk2 m2 h2 with ⟨l3, sk3, m3, hs2, _⟩ | ⟨p3, is3, l3, sk3, m3, hs2, _, hm2, hk2, _⟩
    · rw [h, hs2] at hs; cases hs
    · have e := hs
      rw [h, hs2] at e
      cases e
      rw [F_on hs hm hk, F_on hs2 hm2 hk2]
theorem F_sk : ∀ (n : Nat) (l : ByteArray) (sk : Int) (m : Bool), me l m < n → 0 ≤ sk → 0 ≤ (F l sk m).2.1 ∧ (F l sk m).1.size + 2 * (F l sk m).2.2.2.length ≤ l.size ∧ (∀ p ∈ (F l sk m).2.2.2, p.f0.size ≤ l.size) ∧ (m = false → (∀ p ∈ (F l sk m).2.2.2, p.f1 = 0) → (F l sk m).2.1 = sk ∧ (F l sk m).2.2.1 = false)
  | 0, _, _, _, h, _ => absurd h (Nat.not_lt_zero _)
  | n + 1, l, sk, m, h, h0 => by
    rcases step_cases l sk m h0 with ⟨l', sk', m', hs, _, h3, h4, h5⟩ | ⟨p, is, l', sk', m', hs, _, hm, hk, hz, hp, hg, hi⟩
    · rw [F_off hs]
      exact ⟨h4, by simpa using h3, by simp, fun e _ => h5 e⟩
    · obtain ⟨i1, i2, i3, i4⟩ := F_sk n l' sk' m' (by omega) hk
      rw [F_on hs hm hk]
      refine ⟨i1, ?_, ?_, ?_⟩
      · rw [List.length_append]
        cases is <;> simp at hz ⊢ <;> omega
      · intro q hq
        rcases List.mem_append.1 hq with h6 | h6
        · cases is
          · simp at h6
          · simp only [if_true, List.mem_singleton] at h6
            subst h6; exact hp
        · have := i3 q h6
          omega
      · intro e ha
        have hi' := hi e
        subst hi'
        have hp0 : p.2 = 0 := ha ⟨p.1, p.2⟩ (by simp)
        obtain ⟨g1, g2⟩ := hg e hp0
        obtain ⟨g3, g4⟩ := i4 g2 (fun q hq => ha q (by simp [hq]))
        exact ⟨g3.trans g1, g4⟩
/-- The stage's theorem. -/
theorem F_join : ∀ (n : Nat) (l : ByteArray) (sk : Int) (m : Bool), me l m < n → 0 ≤ sk → ∀ d, F (l ++ d) sk m = ((F ((F l sk m).1 ++ d) (F l sk m).2.1 (F l sk m).2.2.1).1, (F ((F l sk m).1 ++ d) (F l sk m).2.1 (F l sk m).2.2.1).2.1, (F ((F l sk m).1 ++ d) (F l sk m).2.1 (F l sk m).2.2.1).2.2.1, (F l sk m).2.2.2 ++ (F ((F l sk m).1 ++ d) (F l sk m).2.1 (F l sk m).2.2.1).2.2.2)
  | 0, _, _, _, h, _ => absurd h (Nat.not_lt_zero _)
  | n + 1, l, sk, m, h, h0 => by
    intro d
    rcases step_cases l sk m h0 with ⟨l', sk', m', hs, hd, h3, h4, h5⟩ | ⟨p, is, l', sk', m', hs, hd, hm, hk, hz, hp, hg, hi⟩
    · rw [F_off hs]
      rw [F_step (hd d) h0 h4]
      rfl
    · have hm2 : me (l' ++ d) m' < me (l ++ d) m := by
        unfold me at hm ⊢
        rw [szA, szA]
        omega
      rw [F_on (hd d) hm2 hk, F_on hs hm hk, F_join n l' sk' m' (by omega) hk d]
      simp only [List.append_assoc]
/-- Feed is a run. -/
theorem feed_run : ∀ (n : Nat) (l : ByteArray) (sk : Int) (m : Bool), me l m < n → 0 ≤ sk → ∀ out : List S37, out.length + l.size < 1000000000000 → ∀ k, n + 1 ≤ k → feedL k l sk m out true = some ((F l sk m).1, (F l sk m).2.1, (F l sk m).2.2.1, out ++ (F l sk m).2.2.2)
  | 0, _, _, _, h, _ => absurd h (Nat.not_lt_zero _)
  | n + 1, l, sk, m, h, h0 => by
    intro out ho k hk1
    obtain ⟨k, rfl⟩ : ∃ q, k = q + 1 := ⟨k - 1, by omega⟩
    rcases step_cases l sk m h0 with ⟨l', sk', m', hs, hd, h3, h4, h5⟩ | ⟨p, is, l', sk', m', hs, hd, hm, hk, hz, hp, hg, hi⟩
    · rw [F_off hs]
      simp only [feedL, hs, if_true]
      rw [if_neg (by simp)]
      obtain ⟨k, rfl⟩ : ∃ q, k = q + 1 := ⟨k - 1, by omega⟩
      simp [feedL]
    · rw [F_on hs hm hk]
      simp only [feedL, hs, if_true]
      cases is
      · rw [if_neg (by simp)]
        rw [feed_run n l' sk' m' (by omega) hk out (by simp at hz; omega) k (by omega)]
        simp
      · rw [if_pos rfl, if_pos (by omega)]
        rw [feed_run n l' sk' m' (by omega) hk _ (by simp at hz ⊢; omega) k (by omega)]
        simp
theorem feed_at {k : Nat} {l : ByteArray} {sk : Int} {m : Bool} {c : ByteArray} (h0 : 0 ≤ sk) (hs : l.size + c.size ≤ 100000) (hk : 2 * (l.size + c.size) + 3 ≤ k) : frame_Reader_Feed.f k l sk m c = some (F (l ++ c) sk m) := by
  unfold frame_Reader_Feed.f
  rw [if_pos (by omega), feed_run (me (l ++ c) m + 1) _ _ _ (Nat.lt_succ_self _) h0 [] (by rw [szA, List.length_nil]; omega) k (by unfold me; rw [szA]; split <;> omega)]
  rfl
end Go.Proofs.Yteljllpkjhkanaa.La
