import Derived.Test.YtnmhdeibjglhcaaMpMath
/- Walks, closed walks and delays in the plain mathematics of chapter 33. No program in sight. -/
namespace Go.Proofs.Ytnmhdeibjglhcaa.MpWalk
open Go.Proofs.Ytnmhdeibjglhcaa.MpMath

/-- The greatest weights of the walks of k + 1 arcs. -/
def pp (n : Nat) (f : Nat → Nat → Int) : Nat → Nat → Nat → Int
  | 0 => f
  | k + 1 => mp n (pp n f k) f
theorem sm_ne {x y : Int} (h : sm x y ≠ NV) : x ≠ NV ∧ y ≠ NV ∧ sm x y = x + y := by
  unfold sm at *
  by_cases h1 : x = NV
  · rw [if_pos h1] at h; exact absurd rfl h
  · rw [if_neg h1] at *
    by_cases h2 : y = NV
    · rw [if_pos h2] at h; exact absurd rfl h
    · rw [if_neg h2] at *; exact ⟨h1, h2, rfl⟩
theorem bd_pp {B : Int} {n : Nat} {f : Nat → Nat → Int} (hf : bd B n n f) : ∀ k : Nat, bd (((k + 1 : Nat) : Int) * B) n n (pp n f k)
  | 0 => by
    have : ((0 + 1 : Nat) : Int) * B = B := by simp
    rw [this]; exact hf
  | k + 1 => by
    have h := bd_mp (bd_pp hf k) hf
    have e : ((k + 1 : Nat) : Int) * B + B = ((k + 1 + 1 : Nat) : Int) * B := by push_cast; grind
    rw [e] at h
    exact h
theorem mp_mem {n : Nat} {f g : Nat → Nat → Int} {i j : Nat} (h : mp n f g i j ≠ NV) : ∃ l, l < n ∧ f i l ≠ NV ∧ g l j ≠ NV ∧ mp n f g i j = f i l + g l j := by
  rcases mxr_mem (fun k => sm (f i k) (g k j)) n with e | ⟨l, hl, e⟩
  · exact absurd e h
  · have e' : mp n f g i j = sm (f i l) (g l j) := e
    rw [e'] at h
    obtain ⟨h1, h2, h3⟩ := sm_ne h
    exact ⟨l, hl, h1, h2, e'.trans h3⟩
theorem mp_ge {n : Nat} {f g : Nat → Nat → Int} {i j l : Nat} (hl : l < n) (h1 : f i l ≠ NV) (h2 : g l j ≠ NV) : f i l + g l j ≤ mp n f g i j := by
  have h := le_mxr (fun k => sm (f i k) (g k j)) hl
  have e : sm (f i l) (g l j) = f i l + g l j := by unfold sm; rw [if_neg h1, if_neg h2]
  show _ ≤ mxr (fun k => sm (f i k) (g k j)) n
  rw [← e]; exact h
theorem en_ne {B x : Int} (h : en B x) (hx : x ≠ NV) : -B ≤ x ∧ x ≤ B := by rcases h with h | h; exact absurd h hx; exact h
theorem bd40 {n : Nat} {f : Nat → Nat → Int} (hf : bd 40 n n f) (k : Nat) (hk : k ≤ 10000) {i j : Nat} (hi : i < n) (hj : j < n) (h : pp n f k i j ≠ NV) : -1000000 ≤ pp n f k i j ∧ pp n f k i j ≤ 1000000 := by
  have h1 := en_ne (bd_pp hf k i j hi hj) h
  omega

/-- The weight of l arcs of a walk from its place s on. -/
def ws (f : Nat → Nat → Int) (v : Nat → Nat) (s : Nat) : Nat → Int
  | 0 => 0
  | l + 1 => ws f v s l + f (v (s + l)) (v (s + l + 1))
theorem ws_add (f : Nat → Nat → Int) (v : Nat → Nat) (s a : Nat) : ∀ b, ws f v s (a + b) = ws f v s a + ws f v (s + a) b
  | 0 => by simp [ws]
  | b + 1 => by
    show ws f v s (a + b) + f (v (s + (a + b))) (v (s + (a + b) + 1)) = ws f v s a + (ws f v (s + a) b + f (v (s + a + b)) (v (s + a + b + 1)))
    rw [ws_add f v s a b, show s + (a + b) = s + a + b by omega]
    omega
theorem ws_congr (f : Nat → Nat → Int) (v w : Nat → Nat) (s : Nat) : ∀ l, (∀ r, r ≤ l → v (s + r) = w (s + r)) → ws f v s l = ws f w s l
  | 0, _ => rfl
  | l + 1, h => by
    simp only [ws]
    rw [ws_congr f v w s l (fun r hr => h r (by omega)), h l (by omega)]
    have := h (l + 1) (by omega)
    rw [show s + (l + 1) = s + l + 1 by omega] at this
    rw [this]
theorem path {n : Nat} {f : Nat → Nat → Int} : ∀ (m i j : Nat), i < n → j < n → pp n f m i j ≠ NV → ∃ v : Nat → Nat, v 0 = i ∧ v (m + 1) = j ∧ (∀ s, s ≤ m + 1 → v s < n) ∧ (∀ s, s < m + 1 → f (v s) (v (s + 1)) ≠ NV) ∧ pp n f m i j = ws f v 0 (m + 1)
  | 0, i, j, hi, hj, h => by
    refine ⟨fun s => if s = 0 then i else j, rfl, rfl, fun s hs => ?_, fun s hs => ?_, ?_⟩
    · show (if s = 0 then i else j) < n
      split <;> assumption
    · rw [show s = 0 by omega]; exact h
    · show f i j = 0 + f i j
      omega
  | m + 1, i, j, hi, hj, h => by
    obtain ⟨l, hl, h1, h2, h3⟩ := mp_mem (show mp n (pp n f m) f i j ≠ NV from h)
    obtain ⟨v, v0, v1, vn, va, vw⟩ := path m i l hi hl h1
    refine ⟨fun s => if s ≤ m + 1 then v s else j, by simp [v0], by show (if m + 1 + 1 ≤ m + 1 then _ else j) = j; rw [if_neg (by omega)], fun s hs => ?_, fun s hs => ?_, ?_⟩
    · show (if s ≤ m + 1 then v s else j) < n
      split
      · exact vn s (by omega)
      · exact hj
    · show f (if s ≤ m + 1 then v s else j) (if s + 1 ≤ m + 1 then v (s + 1) else j) ≠ NV
      rw [if_pos (by omega)]
      by_cases e : s + 1 ≤ m + 1
      · rw [if_pos e]; exact va s (by omega)
      · rw [if_neg e, show s = m + 1 by omega, v1]; exact h2
    · show mp n (pp n f m) f i j = ws f _ 0 (m + 1) + f (if 0 + (m + 1) ≤ m + 1 then v (0 + (m + 1)) else j) (if 0 + (m + 1) + 1 ≤ m + 1 then v (0 + (m + 1) + 1) else j)
      rw [if_pos (by omega), if_neg (by omega), h3, show 0 + (m + 1) = m + 1 by omega, v1, vw]
      rw [ws_congr f v (fun s => if s ≤ m + 1 then v s else j) 0 (m + 1) (fun r hr => by simp; intro h; omega)]
theorem pp_ge {n : Nat} {f : Nat → Nat → Int} (hf : bd 40 n n f) (v : Nat → Nat) (s : Nat) : ∀ m : Nat, m ≤ 1000 → (∀ r, r ≤ m + 1 → v (s + r) < n) → (∀ r, r < m + 1 → f (v (s + r)) (v (s + r + 1)) ≠ NV) → pp n f m (v s) (v (s + m + 1)) ≠ NV ∧ ws f v s (m + 1) ≤ pp n f m (v s) (v (s + m + 1))
  | 0, _, hv, ha => by
    have := ha 0 (by omega)
    refine ⟨this, ?_⟩
    show 0 + f (v (s + 0)) (v (s + 0 + 1)) ≤ f (v s) (v (s + 0 + 1))
    simp
  | m + 1, hm, hv, ha => by
    obtain ⟨h1, h2⟩ := pp_ge hf v s m (by omega) (fun r hr => hv r (by omega)) (fun r hr => ha r (by omega))
    have h3 := ha (m + 1) (by omega)
    have hl := hv (m + 1) (by omega)
    have h4 := mp_ge (f := pp n f m) (g := f) hl h1 h3
    have e1 : s + (m + 1) = s + m + 1 := by omega
    rw [e1] at h3 h4
    have w : ws f v s (m + 1 + 1) = ws f v s (m + 1) + f (v (s + m + 1)) (v (s + m + 1 + 1)) := by
      show ws f v s (m + 1) + f (v (s + (m + 1))) (v (s + (m + 1) + 1)) = _
      rw [e1]
    have b1 := bd40 hf m (by omega) (by have := hv 0 (by omega); simpa using this) (by have := hv (m + 1) (by omega); rw [e1] at this; exact this) h1
    have b2 := en_ne (hf (v (s + m + 1)) (v (s + m + 1 + 1)) (by have := hv (m + 1) (by omega); rw [e1] at this; exact this) (by have := hv (m + 1 + 1) (by omega); rw [show s + (m + 1 + 1) = s + m + 1 + 1 by omega] at this; exact this)) h3
    rw [show s + (m + 1) + 1 = s + m + 1 + 1 by omega, w]
    show mp n (pp n f m) f _ _ ≠ NV ∧ _ ≤ mp n (pp n f m) f _ _
    refine ⟨?_, by omega⟩
    intro e
    rw [e] at h4
    unfold NV at h4
    omega
/-- Among n + 1 places with n nodes two are alike. -/
theorem pigeon : ∀ (n : Nat) (v : Nat → Nat), (∀ s, s ≤ n → v s < n) → ∃ s u, s < u ∧ u ≤ n ∧ v s = v u
  | 0, v, h => by have := h 0 (by omega); omega
  | n + 1, v, h => by
    by_cases hx : ∃ s, s ≤ n ∧ v s = v (n + 1)
    · obtain ⟨s, hs, e⟩ := hx
      exact ⟨s, n + 1, by omega, by omega, e⟩
    · have hne : ∀ s, s ≤ n → v s ≠ v (n + 1) := fun s hs e => hx ⟨s, hs, e⟩
      obtain ⟨s, u, h1, h2, h3⟩ := pigeon n (fun s => if v s > v (n + 1) then v s - 1 else v s) (fun s hs => by
        have a := h s (by omega)
        have b := h (n + 1) (by omega)
        have c := hne s hs
        show (if v s > v (n + 1) then v s - 1 else v s) < n
        split <;> omega)
      refine ⟨s, u, h1, by omega, ?_⟩
      have a := hne s (by omega)
      have b := hne u h2
      split at h3 <;> split at h3 <;> omega
theorem ws_le (f : Nat → Nat → Int) (v : Nat → Nat) (t : Int) (s : Nat) : ∀ l : Nat, (∀ r, r < l → f (v (s + r)) (v (s + r + 1)) ≤ t) → ws f v s l ≤ (l : Int) * t
  | 0, _ => by simp [ws]
  | l + 1, h => by
    have h1 := ws_le f v t s l (fun r hr => h r (by omega))
    have h2 := h l (by omega)
    have e : ((l + 1 : Nat) : Int) * t = (l : Int) * t + t := by push_cast; grind
    simp only [ws]
    omega
/-- No walk of n arcs has the weight n t, if no arc has more than t and each closed walk has less than t for each arc. -/
theorem walk_less {n : Nat} {f : Nat → Nat → Int} {t : Int} (hn : n ≤ 12) (hf : bd 40 n n f) (ht : ∀ i j, i < n → j < n → f i j ≤ t) (hc : ∀ k i, k < n → i < n → pp n f k i i ≠ NV → pp n f k i i < ((k + 1 : Nat) : Int) * t) (m i j : Nat) (hm : m + 1 = n) (hi : i < n) (hj : j < n) (h : pp n f m i j ≠ NV) : pp n f m i j < (n : Int) * t := by
  obtain ⟨v, v0, v1, vn, va, vw⟩ := path m i j hi hj h
  obtain ⟨s, u, h1, h2, h3⟩ := pigeon n v (fun s hs => vn s (by omega))
  obtain ⟨l, rfl⟩ : ∃ l, u = s + (l + 1) := ⟨u - s - 1, by omega⟩
  obtain ⟨q, hq⟩ : ∃ q, n = s + (l + 1) + q := ⟨n - (s + (l + 1)), by omega⟩
  have e : m + 1 = s + (l + 1) + q := by omega
  rw [vw, e, ws_add, ws_add]
  have a1 := ws_le f v t 0 s (fun r hr => ht _ _ (vn _ (by omega)) (vn _ (by omega)))
  have a2 := ws_le f v t (0 + (s + (l + 1))) q (fun r hr => ht _ _ (vn _ (by omega)) (vn _ (by omega)))
  obtain ⟨c1, c2⟩ := pp_ge hf v s l (by omega) (fun r hr => vn _ (by omega)) (fun r hr => va _ (by omega))
  rw [show s + l + 1 = s + (l + 1) by omega, ← h3] at c1 c2
  have c3 := hc l (v s) (by omega) (vn s (by omega)) c1
  rw [show 0 + s = s by omega]
  have e2 : (n : Int) * t = (s : Int) * t + ((l + 1 : Nat) : Int) * t + (q : Int) * t := by rw [hq]; push_cast; grind
  omega

/-- A row's delay after its first terms. -/
def nw (row z : Nat → Int) (t : Int) : Nat → Int
  | 0 => 0
  | j + 1 => if row j = NV then nw row z t j else max (nw row z t j) (row j + z j - t)
theorem nw_nonneg (row z : Nat → Int) (t : Int) : ∀ n, 0 ≤ nw row z t n
  | 0 => Int.le_refl _
  | n + 1 => by
    have := nw_nonneg row z t n
    unfold nw
    split
    · exact this
    · omega
theorem nw_ge (row z : Nat → Int) (t : Int) : ∀ (n j : Nat), j < n → row j ≠ NV → row j + z j - t ≤ nw row z t n
  | n + 1, j, hj, h => by
    unfold nw
    by_cases e : j = n
    · subst e; rw [if_neg h]; omega
    · have := nw_ge row z t n j (by omega) h
      split <;> omega
theorem nw_mem (row z : Nat → Int) (t : Int) : ∀ n, nw row z t n = 0 ∨ ∃ j, j < n ∧ row j ≠ NV ∧ nw row z t n = row j + z j - t
  | 0 => .inl rfl
  | n + 1 => by
    unfold nw
    by_cases h : row n = NV
    · rw [if_pos h]
      rcases nw_mem row z t n with e | ⟨j, hj, h1, h2⟩
      · exact .inl e
      · exact .inr ⟨j, by omega, h1, h2⟩
    · rw [if_neg h]
      rcases Int.le_total (row n + z n - t) (nw row z t n) with hle | hle
      · rw [Int.max_eq_left hle]
        rcases nw_mem row z t n with e | ⟨j, hj, h1, h2⟩
        · exact .inl e
        · exact .inr ⟨j, by omega, h1, h2⟩
      · rw [Int.max_eq_right hle]
        exact .inr ⟨n, by omega, h, rfl⟩
/-- The delays after k periods. -/
def zs (n : Nat) (f : Nat → Nat → Int) (t : Int) (x : Nat → Int) : Nat → Nat → Int
  | 0 => x
  | k + 1 => fun i => nw (f i) (zs n f t x k) t n
theorem zs_nonneg {n : Nat} {f : Nat → Nat → Int} {t : Int} {x : Nat → Int} (hx : ∀ i, i < n → 0 ≤ x i) : ∀ k i, i < n → 0 ≤ zs n f t x k i
  | 0, i, hi => hx i hi
  | _ + 1, _, _ => nw_nonneg _ _ _ _
theorem zs_le {n : Nat} {f : Nat → Nat → Int} {t : Int} {x : Nat → Int} {X : Int} (hX : 0 ≤ X) (ht : 1 ≤ t) (hf : bd 40 n n f) (hx : ∀ i, i < n → x i ≤ X) : ∀ (k i : Nat), i < n → zs n f t x k i ≤ X + 39 * k
  | 0, i, hi => by have := hx i hi; show x i ≤ _; omega
  | k + 1, i, hi => by
    show nw (f i) (zs n f t x k) t n ≤ _
    rcases nw_mem (f i) (zs n f t x k) t n with e | ⟨j, hj, h1, h2⟩
    · rw [e]; omega
    · rw [h2]
      have a := en_ne (hf i j hi hj) h1
      have b := zs_le hX ht hf hx k j hj
      omega
theorem zs_ge {n : Nat} {f : Nat → Nat → Int} {t : Int} {x : Nat → Int} : ∀ (m k i j : Nat), i < n → j < n → pp n f m i j ≠ NV → pp n f m i j - ((m + 1 : Nat) : Int) * t + zs n f t x k j ≤ zs n f t x (k + m + 1) i
  | 0, k, i, j, hi, hj, h => by
    have := nw_ge (f i) (zs n f t x k) t n j hj h
    show f i j - ((0 + 1 : Nat) : Int) * t + _ ≤ nw (f i) (zs n f t x k) t n
    have e : ((0 + 1 : Nat) : Int) * t = t := by simp
    omega
  | m + 1, k, i, j, hi, hj, h => by
    obtain ⟨l, hl, h1, h2, h3⟩ := mp_mem (show mp n (pp n f m) f i j ≠ NV from h)
    have a := zs_ge (t := t) (x := x) m (k + 1) i l hi hl h1
    have b : f l j + zs n f t x k j - t ≤ zs n f t x (k + 1) l := nw_ge (f l) (zs n f t x k) t n j hj h2
    have e : ((m + 1 + 1 : Nat) : Int) * t = ((m + 1 : Nat) : Int) * t + t := by push_cast; grind
    show mp n (pp n f m) f i j - _ + _ ≤ _
    rw [h3, show k + (m + 1) + 1 = k + 1 + m + 1 by omega]
    omega
theorem pp_le {n : Nat} {f : Nat → Nat → Int} {t : Int} (ht : ∀ i j, i < n → j < n → f i j ≤ t) : ∀ m i j, i < n → j < n → pp n f m i j ≠ NV → pp n f m i j ≤ ((m + 1 : Nat) : Int) * t
  | 0, i, j, hi, hj, _ => by have := ht i j hi hj; simpa [pp] using this
  | m + 1, i, j, hi, hj, h => by
    obtain ⟨l, hl, h1, h2, h3⟩ := mp_mem (show mp n (pp n f m) f i j ≠ NV from h)
    have a := pp_le ht m i l hi hl h1
    have b := ht l j hl hj
    have e : ((m + 1 + 1 : Nat) : Int) * t = ((m + 1 : Nat) : Int) * t + t := by push_cast; grind
    show mp n (pp n f m) f i j ≤ _
    omega
theorem zs_up {n : Nat} {f : Nat → Nat → Int} {t : Int} {x : Nat → Int} (hf : bd 40 n n f) (ht : ∀ i j, i < n → j < n → f i j ≤ t) : ∀ (m k i : Nat), m ≤ 1000 → i < n → zs n f t x (k + m + 1) i ≤ 0 ∨ ∃ j, j < n ∧ pp n f m i j ≠ NV ∧ zs n f t x (k + m + 1) i ≤ pp n f m i j - ((m + 1 : Nat) : Int) * t + zs n f t x k j
  | 0, k, i, _, hi => by
    rcases nw_mem (f i) (zs n f t x k) t n with e | ⟨j, hj, h1, h2⟩
    · exact .inl (Int.le_of_eq e)
    · refine .inr ⟨j, hj, h1, ?_⟩
      show nw (f i) (zs n f t x k) t n ≤ f i j - ((0 + 1 : Nat) : Int) * t + _
      have e : ((0 + 1 : Nat) : Int) * t = t := by simp
      omega
  | m + 1, k, i, hm, hi => by
    rw [show k + (m + 1) + 1 = k + 1 + m + 1 by omega]
    rcases zs_up hf ht m (k + 1) i (by omega) hi with h | ⟨l, hl, h1, h2⟩
    · exact .inl h
    · have e0 : zs n f t x (k + 1) l = nw (f l) (zs n f t x k) t n := rfl
      have e : ((m + 1 + 1 : Nat) : Int) * t = ((m + 1 : Nat) : Int) * t + t := by push_cast; grind
      rcases nw_mem (f l) (zs n f t x k) t n with g | ⟨j, hj, g1, g2⟩
      · have := pp_le ht m i l hi hl h1
        left; omega
      · have a := mp_ge (f := pp n f m) (g := f) (i := i) (j := j) hl h1 g1
        have b1 := bd40 hf m (by omega) hi hl h1
        have b2 := en_ne (hf l j hl hj) g1
        refine .inr ⟨j, hj, ?_, ?_⟩
        · show mp n (pp n f m) f i j ≠ NV
          intro e; rw [e] at a; unfold NV at a; omega
        · show _ ≤ mp n (pp n f m) f i j - _ + _
          omega
/-- All delays vanish if no arc has more than t and each closed walk less than t for each arc. -/
theorem vanish {n : Nat} {f : Nat → Nat → Int} {t : Int} {x : Nat → Int} (h1 : 1 ≤ n) (hn : n ≤ 12) (hf : bd 40 n n f) (ht : ∀ i j, i < n → j < n → f i j ≤ t) (hc : ∀ k i, k < n → i < n → pp n f k i i ≠ NV → pp n f k i i < ((k + 1 : Nat) : Int) * t) (X : Nat) (hx : ∀ i, i < n → x i ≤ X) : ∀ (q i : Nat), i < n → zs n f t x (n * q) i ≤ 0 ∨ zs n f t x (n * q) i ≤ (X : Int) - q
  | 0, i, hi => by have := hx i hi; right; show x i ≤ _; omega
  | q + 1, i, hi => by
    obtain ⟨m, hm⟩ : ∃ m, m + 1 = n := ⟨n - 1, by omega⟩
    have e : n * (q + 1) = n * q + m + 1 := by rw [Nat.mul_add]; omega
    rw [e]
    rcases zs_up (x := x) hf ht m (n * q) i (by omega) hi with h | ⟨j, hj, a1, a2⟩
    · exact .inl h
    · have w := walk_less hn hf ht hc m i j hm hi hj a1
      rw [hm] at a2
      rcases vanish h1 hn hf ht hc X hx q j hj with b | b
      · left; omega
      · right; omega
/-- A delay of 400 on a closed walk of more than t for each arc never vanishes for good: at no time are all delays 0. -/
theorem stays {n : Nat} {f : Nat → Nat → Int} {t : Int} {x : Nat → Int} (hf : bd 40 n n f) (ht : 1 ≤ t) (m i : Nat) (hm : m < 10) (hi : i < n) (hx : 400 ≤ x i) (h1 : pp n f m i i ≠ NV) (h2 : ((m + 1 : Nat) : Int) * t ≤ pp n f m i i) (k : Nat) (h0 : ∀ j, j < n → zs n f t x k j = 0) : False := by
  have up : ∀ q : Nat, 400 ≤ zs n f t x ((m + 1) * q) i := by
    intro q
    induction q with
    | zero => exact hx
    | succ q ih =>
      have := zs_ge (f := f) (t := t) (x := x) m ((m + 1) * q) i i hi hi h1
      rw [show (m + 1) * (q + 1) = (m + 1) * q + m + 1 by rw [Nat.mul_add]; omega]
      omega
  have shift : ∀ q, zs n f t x (k + q) = zs n f t (zs n f t x k) q := by
    intro q
    induction q with
    | zero => rfl
    | succ q ih =>
      show (fun i => nw (f i) (zs n f t x (k + q)) t n) = (fun i => nw (f i) (zs n f t (zs n f t x k) q) t n)
      rw [ih]
  have hq := Nat.div_add_mod k (m + 1)
  have hr := Nat.mod_lt k (show 0 < m + 1 by omega)
  have u := up (k / (m + 1) + 1)
  obtain ⟨d, hd⟩ : ∃ d, (m + 1) * (k / (m + 1) + 1) = k + d := ⟨(m + 1) - k % (m + 1), by rw [Nat.mul_add]; omega⟩
  have hd2 : d ≤ m + 1 := by rw [Nat.mul_add] at hd; omega
  rw [hd, shift d] at u
  have := zs_le (f := f) (t := t) (x := zs n f t x k) (X := 0) (by omega) ht hf (fun j hj => by rw [h0 j hj]; omega) d i hi
  omega

/-- What Mean returns: the greatest mean of the closed walks of at most n arcs, in lowest terms. -/
def MEAN (n : Nat) (f : Nat → Nat → Int) (x y : Int) (ok : Bool) : Prop :=
  (ok = false ∧ x = 0 ∧ y = 0 ∧ ∀ k i, k < n → i < n → pp n f k i i = NV) ∨
  (ok = true ∧ 1 ≤ y ∧ y ≤ n ∧ -1000000 ≤ x ∧ x ≤ 1000000 ∧ Int.gcd x y = 1 ∧ (∃ k i, k < n ∧ i < n ∧ pp n f k i i ≠ NV ∧ pp n f k i i * y = x * ((k + 1 : Nat) : Int)) ∧
    ∀ k i, k < n → i < n → pp n f k i i ≠ NV → pp n f k i i * y ≤ x * ((k + 1 : Nat) : Int))
/-- The best of the closed walks seen: of k < K + 1 arcs, and of K + 1 arcs from the nodes before I. -/
def seenw (n K I k i : Nat) : Prop := i < n ∧ (k < K ∨ (k = K ∧ i < I))
def BEST (n : Nat) (f : Nat → Nat → Int) (S : Nat → Nat → Prop) (num den : Int) : Prop :=
  (num = 0 ∧ den = 0 ∧ ∀ k i, S k i → pp n f k i i = NV) ∨
  (num ≠ NV ∧ (∃ k i, S k i ∧ pp n f k i i = num ∧ den = ((k + 1 : Nat) : Int)) ∧ ∀ k i, S k i → pp n f k i i ≠ NV → pp n f k i i * den ≤ num * ((k + 1 : Nat) : Int))
theorem frac_trans {u d m k' k w : Int} (hd : 0 < d) (hk : 0 < k) (hk' : 0 < k') (h1 : u * d ≤ m * k') (h2 : m * k ≤ w * d) : u * k ≤ w * k' := by
  have a := Int.mul_le_mul_of_nonneg_right h1 (Int.le_of_lt hk)
  have b := Int.mul_le_mul_of_nonneg_right h2 (Int.le_of_lt hk')
  refine Int.le_of_mul_le_mul_right (a := d) ?_ hd
  have e1 : u * k * d = u * d * k := by grind
  have e2 : m * k' * k = m * k * k' := by grind
  have e3 : w * k' * d = w * d * k' := by grind
  omega
theorem best_none {n : Nat} {f : Nat → Nat → Int} {S S' : Nat → Nat → Prop} {num den : Int} {K I : Nat} (hS : ∀ k i, S' k i ↔ S k i ∨ (k = K ∧ i = I)) (h : BEST n f S num den) (hv : pp n f K I I = NV) : BEST n f S' num den := by
  rcases h with ⟨h1, h2, h3⟩ | ⟨h0, ⟨k, i, h1, h2, h3⟩, h4⟩
  · refine .inl ⟨h1, h2, fun k i hk => ?_⟩
    rcases (hS k i).1 hk with h | ⟨rfl, rfl⟩
    · exact h3 k i h
    · exact hv
  · refine .inr ⟨h0, ⟨k, i, (hS k i).2 (.inl h1), h2, h3⟩, fun k i hk hne => ?_⟩
    rcases (hS k i).1 hk with h | ⟨rfl, rfl⟩
    · exact h4 k i h hne
    · exact absurd hv hne
theorem best_first {n : Nat} {f : Nat → Nat → Int} {S S' : Nat → Nat → Prop} {num : Int} {K I : Nat} (hS : ∀ k i, S' k i ↔ S k i ∨ (k = K ∧ i = I)) (h : BEST n f S num 0) (hv : pp n f K I I ≠ NV) : BEST n f S' (pp n f K I I) ((K + 1 : Nat) : Int) := by
  rcases h with ⟨h1, h2, h3⟩ | ⟨h0, ⟨k, i, h1, h2, h3⟩, h4⟩
  · refine .inr ⟨hv, ⟨K, I, (hS K I).2 (.inr ⟨rfl, rfl⟩), rfl, rfl⟩, fun k i hk hne => ?_⟩
    rcases (hS k i).1 hk with h | ⟨rfl, rfl⟩
    · exact absurd (h3 k i h) hne
    · exact Int.le_refl _
  · omega
theorem best_more {n : Nat} {f : Nat → Nat → Int} {S S' : Nat → Nat → Prop} {num den : Int} {K I : Nat} (hS : ∀ k i, S' k i ↔ S k i ∨ (k = K ∧ i = I)) (h : BEST n f S num den) (hd : den ≠ 0) (hv : pp n f K I I ≠ NV) (hb : pp n f K I I * den > num * ((K + 1 : Nat) : Int)) : BEST n f S' (pp n f K I I) ((K + 1 : Nat) : Int) := by
  rcases h with ⟨h1, h2, h3⟩ | ⟨h0, ⟨k, i, h1, h2, h3⟩, h4⟩
  · exact absurd h2 hd
  · refine .inr ⟨hv, ⟨K, I, (hS K I).2 (.inr ⟨rfl, rfl⟩), rfl, rfl⟩, fun k' i' hk hne => ?_⟩
    rcases (hS k' i').1 hk with h | ⟨rfl, rfl⟩
    · exact frac_trans (d := den) (m := num) (by omega) (by omega) (by omega) (h4 k' i' h hne) (Int.le_of_lt hb)
    · exact Int.le_refl _
theorem best_less {n : Nat} {f : Nat → Nat → Int} {S S' : Nat → Nat → Prop} {num den : Int} {K I : Nat} (hS : ∀ k i, S' k i ↔ S k i ∨ (k = K ∧ i = I)) (h : BEST n f S num den) (hd : den ≠ 0) (hb : ¬ pp n f K I I * den > num * ((K + 1 : Nat) : Int)) : BEST n f S' num den := by
  rcases h with ⟨h1, h2, h3⟩ | ⟨h0, ⟨k, i, h1, h2, h3⟩, h4⟩
  · exact absurd h2 hd
  · refine .inr ⟨h0, ⟨k, i, (hS k i).2 (.inl h1), h2, h3⟩, fun k' i' hk hne => ?_⟩
    rcases (hS k' i').1 hk with h | ⟨rfl, rfl⟩
    · exact h4 k' i' h hne
    · omega
theorem best_same {n : Nat} {f : Nat → Nat → Int} {S S' : Nat → Nat → Prop} {num den : Int} (hS : ∀ k i, S' k i ↔ S k i) (h : BEST n f S num den) : BEST n f S' num den := by
  rcases h with ⟨h1, h2, h3⟩ | ⟨h0, ⟨k, i, h1, h2, h3⟩, h4⟩
  · exact .inl ⟨h1, h2, fun k i hk => h3 k i ((hS k i).1 hk)⟩
  · exact .inr ⟨h0, ⟨k, i, (hS k i).2 h1, h2, h3⟩, fun k i hk hne => h4 k i ((hS k i).1 hk) hne⟩
theorem seenw_step {n K I : Nat} (hI : I < n) (k i : Nat) : seenw n K (I + 1) k i ↔ seenw n K I k i ∨ (k = K ∧ i = I) := by unfold seenw; omega
theorem seenw_row {n K : Nat} (k i : Nat) : seenw n (K + 1) 0 k i ↔ seenw n K n k i := by unfold seenw; omega
theorem best_start (n : Nat) (f : Nat → Nat → Int) : BEST n f (seenw n 0 0) 0 0 := .inl ⟨rfl, rfl, fun k i h => by unfold seenw at h; omega⟩
/-- The best, by the greatest common divisor. -/
theorem best_mean {n : Nat} {f : Nat → Nat → Int} (hf : bd 40 n n f) (hn : n ≤ 12) {num den : Int} (h : BEST n f (seenw n n 0) num den) (hd : den ≠ 0) :
    0 < den ∧ -1000000 ≤ num ∧ num ≤ 1000000 ∧ den ≤ n ∧ 0 < (Int.gcd num den : Int) ∧ MEAN n f (Int.tdiv num (Int.gcd num den)) (Int.tdiv den (Int.gcd num den)) true := by
  rcases h with ⟨h1, h2, h3⟩ | ⟨h0, ⟨k, i, h1, h2, h3⟩, h4⟩
  · exact absurd h2 hd
  · unfold seenw at h1
    have hb := bd40 hf k (by omega) h1.1 h1.1 (by rw [h2]; exact h0)
    have hden : 0 < den := by omega
    have hg : Int.gcd num den ≠ 0 := by
      intro e
      have := (Int.gcd_eq_zero_iff.1 e).2
      omega
    have hgp : 0 < (Int.gcd num den : Int) := by omega
    obtain ⟨x, hx⟩ : ∃ x, x = Int.tdiv num (Int.gcd num den) := ⟨_, rfl⟩
    obtain ⟨y, hy⟩ : ∃ y, y = Int.tdiv den (Int.gcd num den) := ⟨_, rfl⟩
    have ex : x * (Int.gcd num den : Int) = num := by rw [hx]; exact Int.tdiv_mul_cancel (Int.gcd_dvd_left num den)
    have ey : y * (Int.gcd num den : Int) = den := by rw [hy]; exact Int.tdiv_mul_cancel (Int.gcd_dvd_right num den)
    rw [← hx, ← hy]
    refine ⟨hden, by omega, by omega, by omega, hgp, .inr ⟨rfl, ?_, ?_, ?_, ?_, ?_, ⟨k, i, by omega, h1.1, by rw [h2]; exact h0, ?_⟩, fun k' i' hk hi hne => ?_⟩⟩
    · have : 0 < y := by
        refine Int.lt_of_mul_lt_mul_right (a := (Int.gcd num den : Int)) ?_ (Int.le_of_lt hgp)
        omega
      omega
    · generalize (Int.gcd num den : Int) = g at *
      have h1 : 0 < y := Int.lt_of_mul_lt_mul_right (a := g) (by omega) (Int.le_of_lt hgp)
      have : y * 1 ≤ y * g := Int.mul_le_mul_of_nonneg_left (by omega) (by omega)
      omega
    · generalize (Int.gcd num den : Int) = g at *
      rcases Int.lt_or_le x 0 with hneg | hpos
      · have : (-x) * 1 ≤ (-x) * g := Int.mul_le_mul_of_nonneg_left (by omega) (by omega)
        simp only [Int.neg_mul] at this
        omega
      · omega
    · generalize (Int.gcd num den : Int) = g at *
      rcases Int.lt_or_le x 0 with hneg | hpos
      · omega
      · have : x * 1 ≤ x * g := Int.mul_le_mul_of_nonneg_left (by omega) (by omega)
        omega
    · have hg2 : Int.gcd (x * (Int.gcd num den : Int)) (y * (Int.gcd num den : Int)) = Int.gcd num den := by rw [ex, ey]
      rw [Int.gcd_mul_right] at hg2
      have e : ((Int.gcd num den : Int)).natAbs = Int.gcd num den := by omega
      rw [e] at hg2
      exact Nat.eq_of_mul_eq_mul_right (show 0 < Int.gcd num den by omega) (by omega)
    · rw [h2]
      refine Int.eq_of_mul_eq_mul_right (a := (Int.gcd num den : Int)) (by omega) ?_
      have e1 : num * y * (Int.gcd num den : Int) = num * (y * (Int.gcd num den : Int)) := by rw [Int.mul_assoc]
      have e2 : x * ((k + 1 : Nat) : Int) * (Int.gcd num den : Int) = x * (Int.gcd num den : Int) * ((k + 1 : Nat) : Int) := by grind
      rw [e1, e2, ex, ey, h3]
    · have := h4 k' i' ⟨hi, .inl hk⟩ hne
      refine Int.le_of_mul_le_mul_right (a := (Int.gcd num den : Int)) ?_ hgp
      have e1 : pp n f k' i' i' * y * (Int.gcd num den : Int) = pp n f k' i' i' * (y * (Int.gcd num den : Int)) := by rw [Int.mul_assoc]
      have e2 : x * ((k' + 1 : Nat) : Int) * (Int.gcd num den : Int) = x * (Int.gcd num den : Int) * ((k' + 1 : Nat) : Int) := by grind
      rw [e1, e2, ex, ey]
      exact this
theorem best_no {n : Nat} {f : Nat → Nat → Int} {num den : Int} (h : BEST n f (seenw n n 0) num den) (hd : den = 0) : MEAN n f 0 0 false := by
  rcases h with ⟨h1, h2, h3⟩ | ⟨h0, ⟨k, i, h1, h2, h3⟩, h4⟩
  · exact .inl ⟨rfl, rfl, rfl, fun k i hk hi => h3 k i ⟨hi, .inl hk⟩⟩
  · omega
end Go.Proofs.Ytnmhdeibjglhcaa.MpWalk
