import Derived.Test.YtnmhdeibjglhcaaMpWalk
/- Simple cycles and closed walks, in the plain mathematics of chapter 33. No program in sight. -/
namespace Go.Proofs.Ytnmhdeibjglhcaa.MpCyc
open Go.Proofs.Ytnmhdeibjglhcaa.MpMath Go.Proofs.Ytnmhdeibjglhcaa.MpWalk

/-- The greatest weight of the closed walks of k + 1 arcs. -/
def cmax (n : Nat) (f : Nat → Nat → Int) (k : Nat) : Int := mxr (fun i => pp n f k i i) n
theorem cmax_nv {n : Nat} {f : Nat → Nat → Int} (hf : bd 40 n n f) {K i : Nat} (hK : K ≤ 100) (hi : i < n) (h : cmax n f K = NV) : pp n f K i i = NV := by
  have a := le_mxr (fun i => pp n f K i i) hi
  have b : pp n f K i i ≤ NV := by rw [← h]; exact a
  by_cases e : pp n f K i i = NV
  · exact e
  · have := bd40 hf K (by omega) hi hi e
    unfold NV at b; omega
theorem best_row {n : Nat} {f : Nat → Nat → Int} (hf : bd 40 n n f) {K : Nat} (hK : K ≤ 100) {num den num' den' : Int} (h : BEST n f (seenw n K 0) num den)
    (hc : if cmax n f K = NV then (num' = num ∧ den' = den) else if den = 0 then (num' = cmax n f K ∧ den' = ((K + 1 : Nat) : Int)) else if cmax n f K * den > num * ((K + 1 : Nat) : Int) then (num' = cmax n f K ∧ den' = ((K + 1 : Nat) : Int)) else (num' = num ∧ den' = den)) : BEST n f (seenw n (K + 1) 0) num' den' := by
  have hS : ∀ k i, seenw n (K + 1) 0 k i ↔ seenw n K 0 k i ∨ (k = K ∧ i < n) := by intro k i; unfold seenw; omega
  have hm : ∀ i, i < n → pp n f K i i ≤ cmax n f K := fun i hi => le_mxr (fun i => pp n f K i i) hi
  by_cases c1 : cmax n f K = NV
  · rw [if_pos c1] at hc
    obtain ⟨rfl, rfl⟩ := hc
    rcases h with ⟨h1, h2, h3⟩ | ⟨h0, ⟨k, i, h1, h2, h3⟩, h4⟩
    · refine .inl ⟨h1, h2, fun k i hk => ?_⟩
      rcases (hS k i).1 hk with g | ⟨rfl, g⟩
      · exact h3 k i g
      · exact cmax_nv hf hK g c1
    · refine .inr ⟨h0, ⟨k, i, (hS k i).2 (.inl h1), h2, h3⟩, fun k i hk hne => ?_⟩
      rcases (hS k i).1 hk with g | ⟨rfl, g⟩
      · exact h4 k i g hne
      · exact absurd (cmax_nv hf hK g c1) hne
  · rw [if_neg c1] at hc
    obtain ⟨I, hI, eI⟩ : ∃ I, I < n ∧ cmax n f K = pp n f K I I := by
      rcases mxr_mem (fun i => pp n f K i i) n with e | ⟨I, hI, e⟩
      · exact absurd e c1
      · exact ⟨I, hI, e⟩
    by_cases c2 : den = 0
    · rw [if_pos c2] at hc
      obtain ⟨rfl, rfl⟩ := hc
      rcases h with ⟨h1, h2, h3⟩ | ⟨h0, ⟨k, i, h1, h2, h3⟩, h4⟩
      · refine .inr ⟨c1, ⟨K, I, (hS K I).2 (.inr ⟨rfl, hI⟩), eI.symm, rfl⟩, fun k i hk hne => ?_⟩
        rcases (hS k i).1 hk with g | ⟨rfl, g⟩
        · exact absurd (h3 k i g) hne
        · exact Int.mul_le_mul_of_nonneg_right (hm i g) (by omega)
      · omega
    · rw [if_neg c2] at hc
      rcases h with ⟨h1, h2, h3⟩ | ⟨h0, ⟨k, i, h1, h2, h3⟩, h4⟩
      · exact absurd h2 c2
      · by_cases c3 : cmax n f K * den > num * ((K + 1 : Nat) : Int)
        · rw [if_pos c3] at hc
          obtain ⟨rfl, rfl⟩ := hc
          refine .inr ⟨c1, ⟨K, I, (hS K I).2 (.inr ⟨rfl, hI⟩), eI.symm, rfl⟩, fun k' i' hk hne => ?_⟩
          rcases (hS k' i').1 hk with g | ⟨rfl, g⟩
          · exact frac_trans (d := den) (m := num) (by omega) (by omega) (by omega) (h4 k' i' g hne) (Int.le_of_lt c3)
          · exact Int.mul_le_mul_of_nonneg_right (hm i' g) (by omega)
        · rw [if_neg c3] at hc
          obtain ⟨rfl, rfl⟩ := hc
          refine .inr ⟨h0, ⟨k, i, (hS k i).2 (.inl h1), h2, h3⟩, fun k' i' hk hne => ?_⟩
          rcases (hS k' i').1 hk with g | ⟨rfl, g⟩
          · exact h4 k' i' g hne
          · have := Int.mul_le_mul_of_nonneg_right (hm i' g) (show 0 ≤ den' by omega)
            omega

theorem ws_shift (f : Nat → Nat → Int) (v w : Nat → Nat) (s s' : Nat) : ∀ l, (∀ r, r ≤ l → v (s + r) = w (s' + r)) → ws f v s l = ws f w s' l
  | 0, _ => rfl
  | l + 1, h => by
    simp only [ws]
    rw [ws_shift f v w s s' l (fun r hr => h r (by omega)), h l (by omega)]
    have := h (l + 1) (by omega)
    rw [show s + (l + 1) = s + l + 1 by omega, show s' + (l + 1) = s' + l + 1 by omega] at this
    rw [this]
end Go.Proofs.Ytnmhdeibjglhcaa.MpCyc
