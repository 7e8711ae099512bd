import Derived.Test.YtnmhdeibjglhcaaMpWalk
/- Simple cycles and closed walks, in the plain mathematics of chapter 33. No program in sight. -/
namespace Go.Proofs.Ytnmhdeibjglhcaa.MpCyc
open Go.Proofs.Ytnmhdeibjglhcaa.MpMath Go.Proofs.Ytnmhdeibjglhcaa.MpWalk

/-- The greatest weight of the closed walks of k + 1 arcs. -/
def cmax (n : Nat) (f : Nat → Nat → Int) (k : Nat) : Int := mxr (fun i => pp n f k i i) n
theorem cmax_nv {n : Nat} {f : Nat → Nat → Int} (hf : bd 40 n n f) {K i : Nat} (hK : K ≤ 100) (hi : i < n) (h : cmax n f K = NV) : pp n f K i i = NV := by
  have a := le_mxr (fun i => pp n f K i i) hi
  have b : pp n f K i i ≤ NV := by rw [← h]; exact a
  by_cases e : pp n f K i i = NV
  · exact e
  · have := bd40 hf K (by omega) hi hi e
    unfold NV at b; omega
theorem best_row {n : Nat} {f : Nat → Nat → Int} (hf : bd 40 n n f) {K : Nat} (hK : K ≤ 100) {num den num' den' : Int} (h : BEST n f (seenw n K 0) num den)
    (hc : if cmax n f K = NV then (num' = num ∧ den' = den) else if den = 0 then (num' = cmax n f K ∧ den' = ((K + 1 : Nat) : Int)) else if cmax n f K * den > num * ((K + 1 : Nat) : Int) then (num' = cmax n f K ∧ den' = ((K + 1 : Nat) : Int)) else (num' = num ∧ den' = den)) : BEST n f (seenw n (K + 1) 0) num' den' := by
  have hS : ∀ k i, seenw n (K + 1) 0 k i ↔ seenw n K 0 k i ∨ (k = K ∧ i < n) := by intro k i; unfold seenw; omega
  have hm : ∀ i, i < n → pp n f K i i ≤ cmax n f K := fun i hi => le_mxr (fun i => pp n f K i i) hi
  by_cases c1 : cmax n f K = NV
  · rw [if_pos c1] at hc
    obtain ⟨rfl, rfl⟩ := hc
    rcases h with ⟨h1, h2, h3⟩ | ⟨h0, ⟨k, i, h1, h2, h3⟩, h4⟩
    · refine .inl ⟨h1, h2, fun k i hk => ?_⟩
      rcases (hS k i).1 hk with g | ⟨rfl, g⟩
      · exact h3 k i g
      · exact cmax_nv hf hK g c1
    · refine .inr ⟨h0, ⟨k, i, (hS k i).2 (.inl h1), h2, h3⟩, fun k i hk hne => ?_⟩
      rcases (hS k i).1 hk with g | ⟨rfl, g⟩
      · exact h4 k i g hne
      · exact absurd (cmax_nv hf hK g c1) hne
  · rw [if_neg c1] at hc
    obtain ⟨I, hI, eI⟩ : ∃ I, I < n ∧ cmax n f K = pp n f K I I := by
      rcases mxr_mem (fun i => pp n f K i i) n with e | ⟨I, hI, e⟩
      · exact absurd e c1
      · exact ⟨I, hI, e⟩
    by_cases c2 : den = 0
    · rw [if_pos c2] at hc
      obtain ⟨rfl, rfl⟩ := hc
      rcases h with ⟨h1, h2, h3⟩ | ⟨h0, ⟨k, i, h1, h2, h3⟩, h4⟩
      · refine .inr ⟨c1, ⟨K, I, (hS K I).2 (.inr ⟨rfl, hI⟩), eI.symm, rfl⟩, fun k i hk hne => ?_⟩
        rcases (hS k i).1 hk with g | ⟨rfl, g⟩
        · exact absurd (h3 k i g) hne
        · exact Int.mul_le_mul_of_nonneg_right (hm i g) (by omega)
      · omega
    · rw [if_neg c2] at hc
      rcases h with ⟨h1, h2, h3⟩ | ⟨h0, ⟨k, i, h1, h2, h3⟩, h4⟩
      · exact absurd h2 c2
      · by_cases c3 : cmax n f K * den > num * ((K + 1 : Nat) : Int)
        · rw [if_pos c3] at hc
          obtain ⟨rfl, rfl⟩ := hc
          refine .inr ⟨c1, ⟨K, I, (hS K I).2 (.inr ⟨rfl, hI⟩), eI.symm, rfl⟩, fun k' i' hk hne => ?_⟩
          rcases (hS k' i').1 hk with g | ⟨rfl, g⟩
          · exact frac_trans (d := den) (m := num) (by omega) (by omega) (by omega) (h4 k' i' g hne) (Int.le_of_lt c3)
          · exact Int.mul_le_mul_of_nonneg_right (hm i' g) (by omega)
        · rw [if_neg c3] at hc
          obtain ⟨rfl, rfl⟩ := hc
          refine .inr ⟨h0, ⟨k, i, (hS k i).2 (.inl h1), h2, h3⟩, fun k' i' hk hne => ?_⟩
          rcases (hS k' i').1 hk with g | ⟨rfl, g⟩
          · exact h4 k' i' g hne
          · have := Int.mul_le_mul_of_nonneg_right (hm i' g) (show 0 ≤ den' by omega)
            omega

/-- A set with one more node. -/
def upd (s : Nat → Bool) (j : Nat) (b : Bool) : Nat → Bool := fun a => if a = j then b else s a
/-- The ways back to the first node through nodes that are greater and not yet seen, each once: their weight and their arcs. -/
inductive Comp (n : Nat) (f : Nat → Nat → Int) (c : Nat) : Nat → (Nat → Bool) → Int → Nat → Prop
  | last (i : Nat) (s : Nat → Bool) : f c i ≠ NV → Comp n f c i s (f c i) 1
  | more (i j : Nat) (s : Nat → Bool) (W : Int) (m : Nat) : c < j → j < n → s j = false → f j i ≠ NV → Comp n f c j (upd s j true) W m → Comp n f c i s (f j i + W) (m + 1)
/-- How many nodes greater than c are not seen. -/
def cnt (c : Nat) (s : Nat → Bool) : Nat → Nat
  | 0 => 0
  | j + 1 => cnt c s j + (if c < j ∧ s j = false then 1 else 0)
theorem cnt_le (c : Nat) (s : Nat → Bool) : ∀ j, cnt c s j ≤ j - 1 - c
  | 0 => by simp [cnt]
  | j + 1 => by
    have := cnt_le c s j
    simp only [cnt]
    split <;> omega
theorem cnt_same (c : Nat) (s : Nat → Bool) (i : Nat) : ∀ j, j ≤ i → cnt c (upd s i true) j = cnt c s j
  | 0, _ => rfl
  | j + 1, h => by
    simp only [cnt]
    rw [cnt_same c s i j (by omega)]
    have : upd s i true j = s j := by unfold upd; rw [if_neg (by omega)]
    rw [this]
theorem cnt_upd (c : Nat) (s : Nat → Bool) (i : Nat) (h1 : c < i) (h2 : s i = false) : ∀ j, i < j → cnt c (upd s i true) j + 1 = cnt c s j
  | j + 1, h => by
    simp only [cnt]
    by_cases e : j = i
    · subst e
      have : upd s j true j = true := by unfold upd; rw [if_pos rfl]
      rw [cnt_same c s j j (Nat.le_refl _), this, if_neg (by simp), if_pos ⟨h1, h2⟩]
    · have := cnt_upd c s i h1 h2 j (by omega)
      have e2 : upd s i true j = s j := by unfold upd; rw [if_neg e]
      rw [e2]; omega
theorem comp_bd {n : Nat} {f : Nat → Nat → Int} (hf : bd 40 n n f) {c : Nat} (hc : c < n) {i : Nat} {s : Nat → Bool} {W : Int} {m : Nat} (h : Comp n f c i s W m) : i < n → 1 ≤ m ∧ m ≤ cnt c s n + 1 ∧ -(40 * (m : Int)) ≤ W ∧ W ≤ 40 * (m : Int) := by
  induction h with
  | last i s h1 => intro hi; have := en_ne (hf c i hc hi) h1; omega
  | more i j s W m h1 h2 h3 h4 _ ih =>
    intro hi
    have a := ih h2
    have b := cnt_upd c s j h1 h3 n h2
    have d := en_ne (hf j i h2 hi) h4
    omega
theorem comp_pp {n : Nat} {f : Nat → Nat → Int} (hf : bd 40 n n f) {c : Nat} (hc : c < n) (hn : n ≤ 100) {i : Nat} {s : Nat → Bool} {W : Int} {m : Nat} (h : Comp n f c i s W m) : i < n → pp n f (m - 1) c i ≠ NV ∧ W ≤ pp n f (m - 1) c i := by
  induction h with
  | last i s h1 => intro hi; exact ⟨h1, Int.le_refl _⟩
  | more i j s W m h1 h2 h3 h4 hC ih =>
    intro hi
    obtain ⟨a1, a2⟩ := ih h2
    obtain ⟨b1, b2, b3, b4⟩ := comp_bd hf hc hC h2
    have hk := cnt_le c (upd s j true) n
    have d := mp_ge (f := pp n f (m - 1)) (g := f) (i := c) (j := i) h2 a1 h4
    have e : m + 1 - 1 = m - 1 + 1 := by omega
    rw [e]
    show mp n (pp n f (m - 1)) f c i ≠ NV ∧ _ ≤ mp n (pp n f (m - 1)) f c i
    have g := bd40 hf (m - 1) (by omega) hc h2 a1
    have g2 := en_ne (hf j i h2 hi) h4
    refine ⟨fun e => ?_, by omega⟩
    rw [e] at d; unfold NV at d; omega
/-- A walk back along places of which each is greater and seen for the first time. -/
theorem comp_of {n : Nat} {f : Nat → Nat → Int} (w : Nat → Nat) : ∀ (s : Nat) (seen : Nat → Bool), (∀ r, 0 < r → r ≤ s → w 0 < w r ∧ w r < n ∧ seen (w r) = false) → (∀ r r', 0 < r → r < r' → r' ≤ s → w r ≠ w r') → (∀ r, r ≤ s → f (w r) (w (r + 1)) ≠ NV) → Comp n f (w 0) (w (s + 1)) seen (ws f w 0 (s + 1)) (s + 1)
  | 0, seen, _, _, ha => by
    have := Comp.last (n := n) (c := w 0) (w 1) seen (ha 0 (by omega))
    have e : ws f w 0 (0 + 1) = f (w 0) (w 1) := by simp [ws]
    rw [e]; exact this
  | s + 1, seen, h1, h2, ha => by
    have ih := comp_of (n := n) (f := f) w s (upd seen (w (s + 1)) true) (fun r hr hrs => by
      obtain ⟨a, b, c⟩ := h1 r hr (by omega)
      refine ⟨a, b, ?_⟩
      unfold upd
      rw [if_neg (h2 r (s + 1) hr (by omega) (by omega))]
      exact c) (fun r r' a b c => h2 r r' a b (by omega)) (fun r hr => ha r (by omega))
    obtain ⟨a, b, c⟩ := h1 (s + 1) (by omega) (by omega)
    have := Comp.more (w (s + 1 + 1)) (w (s + 1)) seen _ _ a b c (ha (s + 1) (by omega)) ih
    have e : ws f w 0 (s + 1 + 1) = f (w (s + 1)) (w (s + 1 + 1)) + ws f w 0 (s + 1) := by
      show ws f w 0 (s + 1) + f (w (0 + (s + 1))) (w (0 + (s + 1) + 1)) = _
      rw [show 0 + (s + 1) = s + 1 by omega]; omega
    rw [e]; exact this

theorem ws_shift (f : Nat → Nat → Int) (v w : Nat → Nat) (s s' : Nat) : ∀ l, (∀ r, r ≤ l → v (s + r) = w (s' + r)) → ws f v s l = ws f w s' l
  | 0, _ => rfl
  | l + 1, h => by
    simp only [ws]
    rw [ws_shift f v w s s' l (fun r hr => h r (by omega)), h l (by omega)]
    have := h (l + 1) (by omega)
    rw [show s + (l + 1) = s + l + 1 by omega, show s' + (l + 1) = s' + l + 1 by omega] at this
    rw [this]
/-- A closed walk. -/
def closedw (n : Nat) (f : Nat → Nat → Int) (v : Nat → Nat) (L : Nat) : Prop := 1 ≤ L ∧ v 0 = v L ∧ (∀ s, s ≤ L → v s < n) ∧ ∀ s, s < L → f (v s) (v (s + 1)) ≠ NV
theorem least (v : Nat → Nat) : ∀ L, 1 ≤ L → ∃ p, p < L ∧ ∀ r, r < L → v p ≤ v r
  | 1, _ => ⟨0, by omega, fun r hr => by rw [show r = 0 by omega]; exact Nat.le_refl _⟩
  | L + 2, _ => by
    obtain ⟨p, h1, h2⟩ := least v (L + 1) (by omega)
    by_cases h : v p ≤ v (L + 1)
    · refine ⟨p, by omega, fun r hr => ?_⟩
      rcases Nat.lt_or_ge r (L + 1) with h3 | h3
      · exact h2 r h3
      · rw [show r = L + 1 by omega]; exact h
    · refine ⟨L + 1, by omega, fun r hr => ?_⟩
      rcases Nat.lt_or_ge r (L + 1) with h3 | h3
      · have := h2 r h3; omega
      · rw [show r = L + 1 by omega]; exact Nat.le_refl _
/-- What holds for all simple cycles from their least node on, and for two closed walks together, holds for all closed walks. -/
theorem all_closed {n : Nat} {f : Nat → Nat → Int} (num den : Int) (hd : ∀ c W m, c < n → Comp n f c c (fun _ => false) W m → 0 < den ∧ W * den ≤ num * (m : Int)) : ∀ (K L : Nat), L ≤ K → ∀ v, closedw n f v L → 0 < den ∧ ws f v 0 L * den ≤ num * (L : Int) := by
  intro K
  induction K with
  | zero => intro L hL v hv; have := hv.1; omega
  | succ K ih =>
    intro L hL v hv
    obtain ⟨h1, h2, h3, h4⟩ := hv
    by_cases hs : ∃ s u, s < u ∧ u ≤ L ∧ v s = v u ∧ u - s < L
    · obtain ⟨s, u, s1, s2, s3, s4⟩ := hs
      obtain ⟨q, rfl⟩ : ∃ q, u = s + q := ⟨u - s, by omega⟩
      obtain ⟨p, rfl⟩ : ∃ p, L = s + q + p := ⟨L - (s + q), by omega⟩
      have i1 := ih q (by omega) (fun r => v (s + r)) ⟨by omega, s3, fun r hr => h3 _ (by omega), fun r hr => by
        have := h4 (s + r) (by omega)
        rw [show s + r + 1 = s + (r + 1) by omega] at this; exact this⟩
      have i2 := ih (s + p) (by omega) (fun r => if r ≤ s then v r else v (r + q)) ⟨by omega, by
        show (if 0 ≤ s then v 0 else v (0 + q)) = (if s + p ≤ s then v (s + p) else v (s + p + q))
        rw [if_pos (by omega)]
        by_cases e : p = 0
        · subst e
          rw [if_pos (by omega), h2]
          show v (s + q + 0) = v (s + 0)
          exact s3.symm
        · rw [if_neg (by omega), h2, show s + p + q = s + q + p by omega], fun r hr => by
        show (if r ≤ s then v r else v (r + q)) < n
        split
        · exact h3 _ (by omega)
        · exact h3 _ (by omega), fun r hr => by
        show f (if r ≤ s then v r else v (r + q)) (if r + 1 ≤ s then v (r + 1) else v (r + 1 + q)) ≠ NV
        by_cases a : r + 1 ≤ s
        · rw [if_pos (by omega), if_pos a]; exact h4 r (by omega)
        · rw [if_neg a]
          by_cases b : r ≤ s
          · rw [if_pos b, show r = s by omega, s3, show s + 1 + q = s + q + 1 by omega]; exact h4 (s + q) (by omega)
          · rw [if_neg b, show r + 1 + q = r + q + 1 by omega]; exact h4 (r + q) (by omega)⟩
      refine ⟨i1.1, ?_⟩
      have e1 : ws f (fun r => v (s + r)) 0 q = ws f v s q := ws_shift f _ _ 0 s q (fun r _ => by simp)
      have e2 : ws f (fun r => if r ≤ s then v r else v (r + q)) 0 (s + p) = ws f v 0 s + ws f v (s + q) p := by
        rw [ws_add]
        congr 1
        · exact ws_shift f _ _ 0 0 s (fun r hr => by simp; intro h; omega)
        · refine ws_shift f _ _ (0 + s) (s + q) p (fun r hr => ?_)
          show (if 0 + s + r ≤ s then v (0 + s + r) else v (0 + s + r + q)) = v (s + q + r)
          by_cases e : r = 0
          · subst e
            rw [if_pos (by omega), show 0 + s + 0 = s by omega, s3]; rfl
          · rw [if_neg (by omega), show 0 + s + r + q = s + q + r by omega]
      have e3 : ws f v 0 (s + q + p) = ws f v 0 s + ws f v s q + ws f v (s + q) p := by
        rw [ws_add, ws_add]
        simp
      have a1 := i1.2
      have a2 := i2.2
      rw [e1] at a1
      rw [e2] at a2
      rw [e3]
      have b1 : (ws f v 0 s + ws f v s q + ws f v (s + q) p) * den = ws f v s q * den + (ws f v 0 s + ws f v (s + q) p) * den := by grind
      have b2 : num * ((s + q + p : Nat) : Int) = num * (q : Int) + num * ((s + p : Nat) : Int) := by push_cast; grind
      omega
    · have hne : ∀ s u, s < u → u ≤ L → u - s < L → v s ≠ v u := fun s u a b c e => hs ⟨s, u, a, b, e, c⟩
      obtain ⟨p, p1, p2⟩ := least v L h1
      obtain ⟨w, hw⟩ : ∃ w : Nat → Nat, w = fun r => if p + r ≤ L then v (p + r) else v (p + r - L) := ⟨_, rfl⟩
      have hwv : ∀ r, w r = if p + r ≤ L then v (p + r) else v (p + r - L) := fun r => by rw [hw]
      have w0 : w 0 = v p := by rw [hwv, if_pos (by omega)]; rfl
      have wL : w L = v p := by
        rw [hwv]
        by_cases e : p = 0
        · rw [if_pos (by omega), e, show 0 + L = L by omega, h2]
        · rw [if_neg (by omega), show p + L - L = p by omega]
      obtain ⟨l, rfl⟩ : ∃ l, L = l + 1 := ⟨L - 1, by omega⟩
      have wlt : ∀ r, r ≤ l + 1 → w r < n := fun r hr => by rw [hwv]; split <;> exact h3 _ (by omega)
      have wmin : ∀ r, 0 < r → r ≤ l → w 0 < w r := by
        intro r r1 r2
        have d : v p ≠ w r := by
          rw [hwv]
          split
          · exact hne p (p + r) (by omega) (by omega) (by omega)
          · intro e
            exact hne (p + r - (l + 1)) p (by omega) (by omega) (by omega) e.symm
        have a : v p ≤ w r := by
          rw [hwv]
          split
          · by_cases e : p + r = l + 1
            · rw [e, ← h2]; exact p2 0 (by omega)
            · exact p2 _ (by omega)
          · exact p2 _ (by omega)
        rw [w0]; omega
      have wdis : ∀ r r', 0 < r → r < r' → r' ≤ l → w r ≠ w r' := by
        intro r r' a b c
        rw [hwv, hwv]
        by_cases e1 : p + r ≤ l + 1
        · rw [if_pos e1]
          by_cases e2 : p + r' ≤ l + 1
          · rw [if_pos e2]; exact hne _ _ (by omega) (by omega) (by omega)
          · rw [if_neg e2]
            intro e
            exact hne (p + r' - (l + 1)) (p + r) (by omega) (by omega) (by omega) e.symm
        · rw [if_neg e1, if_neg (by omega)]
          exact hne _ _ (by omega) (by omega) (by omega)
      have warc : ∀ r, r ≤ l → f (w r) (w (r + 1)) ≠ NV := by
        intro r hr
        rw [hwv, hwv]
        by_cases e1 : p + (r + 1) ≤ l + 1
        · rw [if_pos (by omega), if_pos e1]
          have := h4 (p + r) (by omega)
          rw [show p + r + 1 = p + (r + 1) by omega] at this; exact this
        · rw [if_neg e1]
          by_cases e2 : p + r ≤ l + 1
          · rw [if_pos e2, show p + r = l + 1 by omega, ← h2, show p + (r + 1) - (l + 1) = 0 + 1 by omega]; exact h4 0 (by omega)
          · rw [if_neg e2]
            have := h4 (p + r - (l + 1)) (by omega)
            rw [show p + r - (l + 1) + 1 = p + (r + 1) - (l + 1) by omega] at this; exact this
      have hC := comp_of (n := n) (f := f) w l (fun _ => false) (fun r a b => ⟨wmin r a b, wlt r (by omega), rfl⟩) wdis warc
      rw [wL, ← w0] at hC
      have hd2 := hd (w 0) _ _ (wlt 0 (by omega)) hC
      refine ⟨hd2.1, ?_⟩
      have e : ws f w 0 (l + 1) = ws f v 0 (l + 1) := by
        have x1 : l + 1 = (l + 1 - p) + p := by omega
        have x2 : l + 1 = p + (l + 1 - p) := by omega
        have y1 : ws f w 0 ((l + 1 - p) + p) = ws f v p (l + 1 - p) + ws f v 0 p := by
          rw [ws_add]
          congr 1
          · refine ws_shift f _ _ 0 p _ (fun r hr => ?_)
            rw [hwv, if_pos (by omega), show p + (0 + r) = p + r by omega]
          · refine ws_shift f _ _ _ 0 _ (fun r hr => ?_)
            rw [hwv]
            by_cases e : r = 0
            · subst e
              rw [if_pos (by omega), show p + (0 + (l + 1 - p) + 0) = l + 1 by omega, ← h2]
            · rw [if_neg (by omega), show p + (0 + (l + 1 - p) + r) - (l + 1) = 0 + r by omega]
        have y2 : ws f v 0 (p + (l + 1 - p)) = ws f v 0 p + ws f v p (l + 1 - p) := by rw [ws_add, show 0 + p = p by omega]
        rw [← x1] at y1
        rw [← x2] at y2
        omega
      rw [e] at hd2
      exact hd2.2
/-- What the search has found, from one start: not worse than before, not worse than any way back, and one of these. -/
def RES (Q : Int → Nat → Prop) (sum : Int) (arcs : Nat) (num den num' den' : Int) : Prop :=
  (den = 0 ∨ (0 < den' ∧ num * den' ≤ num' * den)) ∧ (∀ W m, Q W m → 0 < den' ∧ (sum + W) * den' ≤ num' * ((arcs + m : Nat) : Int)) ∧ ((num' = num ∧ den' = den) ∨ ∃ W m, Q W m ∧ num' = sum + W ∧ den' = ((arcs + m : Nat) : Int))
theorem res_none (sum : Int) (arcs : Nat) (num den : Int) (hd : 0 ≤ den) (Q : Int → Nat → Prop) (hQ : ∀ W m, ¬ Q W m) : RES Q sum arcs num den num den := by
  refine ⟨?_, fun W m h => absurd h (hQ W m), .inl ⟨rfl, rfl⟩⟩
  by_cases h : den = 0
  · exact .inl h
  · exact .inr ⟨by omega, Int.le_refl _⟩
theorem res_comp {Q1 Q2 Q : Int → Nat → Prop} {sum : Int} {arcs : Nat} {num den num1 den1 num2 den2 : Int} (hd : 0 ≤ den) (hp : ∀ W m, Q1 W m → 1 ≤ arcs + m) (h1 : RES Q1 sum arcs num den num1 den1) (h2 : RES Q2 sum arcs num1 den1 num2 den2) (hQ : ∀ W m, Q W m ↔ Q1 W m ∨ Q2 W m) : RES Q sum arcs num den num2 den2 := by
  obtain ⟨a1, a2, a3⟩ := h1
  obtain ⟨b1, b2, b3⟩ := h2
  refine ⟨?_, fun W m h => ?_, ?_⟩
  · rcases a1 with a1 | ⟨a1, a1'⟩
    · exact .inl a1
    · by_cases hden : den = 0
      · exact .inl hden
      · rcases b1 with b1 | ⟨b1, b1'⟩
        · omega
        · exact .inr ⟨b1, by
            have := frac_trans (u := num) (d := den1) (m := num1) (k' := den) (k := den2) (w := num2) a1 b1 (by omega) a1' b1'
            exact this⟩
  · rcases (hQ W m).1 h with h | h
    · obtain ⟨c1, c2⟩ := a2 W m h
      have hpos := hp W m h
      rcases b1 with b1 | ⟨b1, b1'⟩
      · omega
      · exact ⟨b1, frac_trans (d := den1) (m := num1) c1 b1 (by omega) c2 b1'⟩
    · exact b2 W m h
  · rcases b3 with ⟨rfl, rfl⟩ | ⟨W, m, c1, c2⟩
    · rcases a3 with a3 | ⟨W, m, c1, c2⟩
      · exact .inl a3
      · exact .inr ⟨W, m, (hQ W m).2 (.inl c1), c2⟩
    · exact .inr ⟨W, m, (hQ W m).2 (.inr c1), c2⟩
theorem res_child {Q : Int → Nat → Prop} {sum w : Int} {arcs : Nat} {num den num' den' : Int} (h : RES Q (sum + w) (arcs + 1) num den num' den') : RES (fun W m => ∃ W' m', Q W' m' ∧ W = w + W' ∧ m = m' + 1) sum arcs num den num' den' := by
  obtain ⟨a1, a2, a3⟩ := h
  refine ⟨a1, ?_, ?_⟩
  · rintro W m ⟨W', m', hQ, rfl, rfl⟩
    have := a2 W' m' hQ
    rw [show sum + (w + W') = sum + w + W' by omega, show arcs + (m' + 1) = arcs + 1 + m' by omega]
    exact this
  · rcases a3 with a3 | ⟨W, m, c1, c2, c3⟩
    · exact .inl a3
    · exact .inr ⟨w + W, m + 1, ⟨W, m, c1, rfl, rfl⟩, by omega, by omega⟩
theorem res_last {sum w : Int} {arcs : Nat} {num den num' den' : Int} (hd : 0 ≤ den) (hc : if den = 0 then (num' = sum + w ∧ den' = ((arcs + 1 : Nat) : Int)) else if (sum + w) * den > num * ((arcs + 1 : Nat) : Int) then (num' = sum + w ∧ den' = ((arcs + 1 : Nat) : Int)) else (num' = num ∧ den' = den)) : RES (fun W m => W = w ∧ m = 1) sum arcs num den num' den' := by
  by_cases c1 : den = 0
  · rw [if_pos c1] at hc
    obtain ⟨rfl, rfl⟩ := hc
    exact ⟨.inl c1, fun W m h => by obtain ⟨rfl, rfl⟩ := h; exact ⟨by omega, Int.le_refl _⟩, .inr ⟨w, 1, ⟨rfl, rfl⟩, rfl, rfl⟩⟩
  · rw [if_neg c1] at hc
    by_cases c2 : (sum + w) * den > num * ((arcs + 1 : Nat) : Int)
    · rw [if_pos c2] at hc
      obtain ⟨rfl, rfl⟩ := hc
      exact ⟨.inr ⟨by omega, Int.le_of_lt c2⟩, fun W m h => by obtain ⟨rfl, rfl⟩ := h; exact ⟨by omega, Int.le_refl _⟩, .inr ⟨w, 1, ⟨rfl, rfl⟩, rfl, rfl⟩⟩
    · rw [if_neg c2] at hc
      obtain ⟨rfl, rfl⟩ := hc
      exact ⟨.inr ⟨by omega, Int.le_refl _⟩, fun W m h => by obtain ⟨rfl, rfl⟩ := h; exact ⟨by omega, by omega⟩, .inl ⟨rfl, rfl⟩⟩
end Go.Proofs.Ytnmhdeibjglhcaa.MpCyc
