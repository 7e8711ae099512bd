/- The closure of a max-plus matrix without cycles of positive weight. No program in sight. -/
import Derived.Test.YtnmhdeibjglhcaaMpCyc
namespace Go.Proofs.Ytnmhdeibjglhcaa.MpStar
open Go.Proofs.Ytnmhdeibjglhcaa.MpMath Go.Proofs.Ytnmhdeibjglhcaa.MpWalk Go.Proofs.Ytnmhdeibjglhcaa.MpCyc

theorem pw_pp {n : Nat} {f : Nat → Nat → Int} (hf : bd 40 n n f) : ∀ k i j, i < n → j < n → pw n f (k + 1) i j = pp n f k i j
  | 0, i, j, hi, hj => mp_un (B := 40) (by unfold LIMB; omega) hf i j hi hj
  | k + 1, i, j, hi, hj => mp_congr (fun l hl => pw_pp hf k i l hi hl) (fun _ _ => rfl)
/-- A walk of n arcs has a cycle, which may be left out. -/
theorem cut_cycle {n : Nat} {f : Nat → Nat → Int} (hf : bd 40 n n f) (hn : n ≤ 12) (hc : ∀ k i, k < n → i < n → pp n f k i i ≠ NV → pp n f k i i ≤ 0) {m i j : Nat} (hm : n = m + 1) (hi : i < n) (hj : j < n) (h : pp n f m i j ≠ NV) : ∃ k, k < n ∧ pp n f m i j ≤ pw n f k i j := by
  obtain ⟨v, v0, vl, hv, ha, hw⟩ := path m i j hi hj h
  obtain ⟨s, u, hsu, hu, e⟩ := pigeon n v (fun s hs => hv s (by omega))
  have hcyc := pp_ge hf v s (u - s - 1) (by omega) (fun r hr => hv _ (by omega)) (fun r hr => ha _ (by omega))
  rw [show s + (u - s - 1) + 1 = u by omega, ← e, show u - s - 1 + 1 = u - s by omega] at hcyc
  have h0 := hc (u - s - 1) (v s) (by omega) (hv s (by omega)) hcyc.1
  have hsplit : ws f v 0 (m + 1) = ws f v 0 s + ws f v s (u - s) + ws f v u (m + 1 - u) := by
    have a := ws_add f v 0 s (m + 1 - s)
    have b := ws_add f v s (u - s) (m + 1 - u)
    rw [show s + (m + 1 - s) = m + 1 by omega, Nat.zero_add] at a
    rw [show u - s + (m + 1 - u) = m + 1 - s by omega, show s + (u - s) = u by omega] at b
    omega
  obtain ⟨w, hwd⟩ : ∃ w : Nat → Nat, ∀ r, w r = if r ≤ s then v r else v (r + (u - s)) := ⟨_, fun _ => rfl⟩
  have hwlo : ∀ r, r ≤ s → w r = v r := fun r hr => by rw [hwd, if_pos hr]
  have hwhi : ∀ r, s ≤ r → w r = v (r + (u - s)) := fun r hr => by
    rw [hwd]
    by_cases hq : r ≤ s
    · rw [if_pos hq, show r = s by omega, e]; congr 1; omega
    · rw [if_neg hq]
  have hw1 : ws f w 0 s = ws f v 0 s := ws_congr f w v 0 s (fun r hr => by rw [hwlo _ (by omega)])
  have hw2 : ws f w s (m + 1 - u) = ws f v u (m + 1 - u) := ws_shift f w v s u _ (fun r hr => by rw [hwhi _ (by omega)]; congr 1; omega)
  have htot : ws f w 0 (s + (m + 1 - u)) = ws f v 0 s + ws f v u (m + 1 - u) := by rw [ws_add, Nat.zero_add, hw1, hw2]
  have e0 : w 0 = i := by rw [hwlo 0 (by omega)]; exact v0
  have e1 : w (s + (m + 1 - u)) = j := by rw [hwhi _ (by omega), ← vl]; congr 1; omega
  generalize hL : s + (m + 1 - u) = L at htot e1
  cases L with
  | zero =>
    have hij : i = j := by rw [← e0, ← e1]
    subst hij
    have hz : ws f w 0 0 = 0 := rfl
    refine ⟨0, by omega, ?_⟩
    show pp n f m i i ≤ un i i
    unfold un
    rw [if_pos rfl]
    omega
  | succ l =>
    have hge := pp_ge hf w 0 l (by omega) (fun r hr => by
      rw [Nat.zero_add]
      by_cases hq : r ≤ s
      · rw [hwlo r hq]; exact hv r (by omega)
      · rw [hwhi r (by omega)]; exact hv _ (by omega)) (fun r hr => by
      rw [Nat.zero_add]
      by_cases hq : r + 1 ≤ s
      · rw [hwlo r (by omega), hwlo (r + 1) hq]; exact ha r (by omega)
      · rw [hwhi r (by omega), hwhi (r + 1) (by omega), show r + 1 + (u - s) = r + (u - s) + 1 by omega]; exact ha _ (by omega))
    rw [Nat.zero_add, e0, e1] at hge
    refine ⟨l + 1, by omega, ?_⟩
    rw [pw_pp hf l i j hi hj]
    have := hge.2
    omega
/-- The greatest entries of the powers. -/
def st (n : Nat) (f : Nat → Nat → Int) (i j : Nat) : Int := mxr (fun k => pw n f k i j) n
theorem bd_st {n : Nat} {f : Nat → Nat → Int} (hf : bd 40 n n f) (hn : n ≤ 12) : bd 480 n n (st n f) := fun i j hi hj => en_mxr _ n (fun k hk => en_mono (bd_pw hf k i j hi hj) (by omega))
theorem pw_le_st {n : Nat} {f : Nat → Nat → Int} {k i j : Nat} (hk : k < n) : pw n f k i j ≤ st n f i j := le_mxr (fun k => pw n f k i j) hk
/-- One more multiplication does not change it. -/
theorem star_fix {n : Nat} {f : Nat → Nat → Int} (hf : bd 40 n n f) (h1 : 1 ≤ n) (hn : n ≤ 12) (hc : ∀ k i, k < n → i < n → pp n f k i i ≠ NV → pp n f k i i ≤ 0) (i j : Nat) (hi : i < n) (hj : j < n) :
    st n f i j = if i = j then max (mp n (st n f) f i j) 0 else mp n (st n f) f i j := by
  have h2 : mp n (st n f) f i j ≤ st n f i j := by
    refine (mxr_le _ _ n).2 ⟨nv_mxr _ _, fun l hl => ?_⟩
    show sm (st n f i l) (f l j) ≤ _
    by_cases a : st n f i l = NV
    · rw [a, sm_nv]; exact nv_mxr _ _
    · by_cases b : f l j = NV
      · rw [b, sm_nv']; exact nv_mxr _ _
      · rcases mxr_mem (fun k => pw n f k i l) n with h | ⟨k, hk, h⟩
        · exact absurd h a
        · have e : st n f i l = pw n f k i l := h
          rw [e] at a ⊢
          have hs : sm (pw n f k i l) (f l j) = pw n f k i l + f l j := by unfold sm; rw [if_neg a, if_neg b]
          rw [hs]
          have hg : pw n f k i l + f l j ≤ pw n f (k + 1) i j := mp_ge hl a b
          by_cases hk1 : k + 1 < n
          · exact Int.le_trans hg (pw_le_st hk1)
          · rw [pw_pp hf k i j hi hj] at hg
            by_cases hz : pp n f k i j = NV
            · rw [hz] at hg; exact Int.le_trans hg (nv_mxr _ _)
            · obtain ⟨q, hq, hle⟩ := cut_cycle hf hn hc (show n = k + 1 by omega) hi hj hz
              exact Int.le_trans hg (Int.le_trans hle (pw_le_st hq))
  have h3 : ∀ k, k + 1 < n → pw n f (k + 1) i j ≤ mp n (st n f) f i j := fun k hk => by
    refine (mxr_le _ _ n).2 ⟨nv_mxr _ _, fun l hl => ?_⟩
    have hx := en_mono (bd_pw hf k i l hi hl) (show (k : Int) * 40 ≤ 480 by omega)
    exact Int.le_trans (sm_mono (A := 480) (by unfold LIMB; omega) hx (bd_st hf hn i l hi hl) (en_mono (hf l j hl hj) (by omega)) (pw_le_st (by omega))) (le_mxr (fun l => sm (st n f i l) (f l j)) hl)
  by_cases e : i = j
  · subst e
    rw [if_pos rfl]
    have hz : pw n f 0 i i = 0 := by show un i i = 0; unfold un; rw [if_pos rfl]
    apply Int.le_antisymm
    · refine (mxr_le _ _ n).2 ⟨?_, fun k hk => ?_⟩
      · have : NV ≤ 0 := by decide
        omega
      · cases k with
        | zero => rw [hz]; omega
        | succ k => have := h3 k hk; omega
    · have := pw_le_st (f := f) (i := i) (j := i) (show 0 < n by omega)
      rw [hz] at this
      omega
  · rw [if_neg e]
    apply Int.le_antisymm
    · refine (mxr_le _ _ n).2 ⟨nv_mxr _ _, fun k hk => ?_⟩
      cases k with
      | zero => show un i j ≤ _; unfold un; rw [if_neg e]; exact nv_mxr _ _
      | succ k => exact h3 k hk
    · exact h2
/-- Is there a cycle of positive weight? Mean tells it. -/
theorem mean_pos {n : Nat} {f : Nat → Nat → Int} {x y : Int} {ok : Bool} (h : MEAN n f x y ok) : (ok = true ∧ x > 0) ↔ ∃ k i, k < n ∧ i < n ∧ pp n f k i i ≠ NV ∧ 0 < pp n f k i i := by
  rcases h with ⟨rfl, hx, hy, hno⟩ | ⟨rfl, hy, _, _, _, _, ⟨k, i, hk, hi, hnv, he⟩, hall⟩
  · exact ⟨fun h => absurd h.1 (by decide), fun ⟨k, i, hk, hi, hnv, _⟩ => absurd (hno k i hk hi) hnv⟩
  · constructor
    · rintro ⟨_, hx⟩
      refine ⟨k, i, hk, hi, hnv, ?_⟩
      apply Classical.byContradiction
      intro hn
      have h1 : 0 < x * ((k + 1 : Nat) : Int) := Int.mul_pos hx (by omega)
      have h2 : pp n f k i i * y ≤ 0 := Int.mul_nonpos_of_nonpos_of_nonneg (by omega) (by omega)
      omega
    · rintro ⟨k', i', hk', hi', hnv', hp⟩
      refine ⟨rfl, ?_⟩
      have h1 := hall k' i' hk' hi' hnv'
      have h2 : 0 < pp n f k' i' i' * y := Int.mul_pos hp (by omega)
      apply Classical.byContradiction
      intro hn
      have h3 : x * ((k' + 1 : Nat) : Int) ≤ 0 := Int.mul_nonpos_of_nonpos_of_nonneg (by omega) (by omega)
      omega
end Go.Proofs.Ytnmhdeibjglhcaa.MpStar
