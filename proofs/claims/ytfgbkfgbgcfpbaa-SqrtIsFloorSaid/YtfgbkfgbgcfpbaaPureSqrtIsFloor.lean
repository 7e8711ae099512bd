/- Sqrt is the root rounded down, for all 64-bit whole numbers and shifts. -/
import Derived.Test.YtfgbkfgbgcfpbaaPSqrtIsFloorx1
import Derived.OpenShut
namespace Go.Proofs.Ytfgbkfgbgcfpbaa.Pure
open Go.RowKit Go.Proofs.Ytfgbkfgbgcfpbaa.PSqrtIsFloor Go.Proofs.YtfgbkfgbgcfpbaaW.PrintWords Go.Proofs.YtfgbkfgbgcfpbaaW.PrintLast

theorem tdiv_pos (n m : Int) (hn : 0 ≤ n) : Int.tdiv n m = n / m := Int.tdiv_eq_ediv_of_nonneg hn
theorem sqrt_loop (n : Int) (hn1 : 1 ≤ n) (hn2 : n ≤ 9223372036854775807) : ∀ (k : Nat) (lo hi : Int), 1 ≤ lo → lo ≤ hi → hi ≤ 3037000499 → lo * lo ≤ n → n < (hi + 1) * (hi + 1) → hi - lo < 2 ^ k →
    ∃ r, arith_Sqrt.l0 (k + 1) n lo hi = some r ∧ 1 ≤ r ∧ r ≤ 3037000499 ∧ r * r ≤ n ∧ n < (r + 1) * (r + 1) := by
  intro k
  induction k with
  | zero =>
    intro lo hi h1 h2 h3 h4 h5 h6
    have : lo = hi := by simp at h6; omega
    subst this
    refine ⟨lo, ?_, h1, h3, h4, h5⟩
    simp only [arith_Sqrt.l0]
    rw [if_neg (by omega)]
  | succ k ih =>
    intro lo hi h1 h2 h3 h4 h5 h6
    rw [Int.pow_succ] at h6
    generalize hP : (2 : Int) ^ k = P at h6 ih
    by_cases hlt : lo < hi
    · have hm : wrap64 (lo + wrap64 (Int.tdiv (wrap64 (wrap64 (hi - lo) + 1)) 2)) = lo + (hi - lo + 1) / 2 := by
        have : wrap64 (wrap64 (hi - lo) + 1) = hi - lo + 1 := by unfold wrap64; omega
        rw [this, tdiv_pos _ _ (by omega)]
        unfold wrap64
        omega
      rw [show arith_Sqrt.l0 (k + 1 + 1) n lo hi = _ from rfl]
      simp only [arith_Sqrt.l0]
      rw [if_pos hlt, hm]
      generalize hmid : lo + (hi - lo + 1) / 2 = mid
      have hq0 : 0 ≤ n / mid := Int.ediv_nonneg (by omega) (by omega)
      have hq1 : n / mid ≤ n := Int.ediv_le_self _ (by omega)
      have hd : wrap64 (Int.tdiv n mid) = n / mid := by
        rw [tdiv_pos _ _ (by omega)]
        unfold wrap64
        omega
      rw [if_neg (by omega), hd]
      have hiff : mid ≤ n / mid ↔ mid * mid ≤ n := Int.le_ediv_iff_mul_le (by omega)
      split
      · rename_i hle
        have hmm := hiff.1 hle
        obtain ⟨r, hr, h⟩ := ih mid hi (by omega) (by omega) h3 hmm h5 (by omega)
        exact ⟨r, hr, h⟩
      · rename_i hgt
        have hmm : n < mid * mid := by
          have := mt hiff.2 hgt
          omega
        have hw : wrap64 (mid - 1) = mid - 1 := by unfold wrap64; omega
        rw [hw]
        obtain ⟨r, hr, h⟩ := ih lo (mid - 1) h1 (by omega) (by omega) h4 (by rw [Int.sub_add_cancel]; exact hmm) (by omega)
        exact ⟨r, hr, h⟩
    · have : lo = hi := by omega
      subst this
      refine ⟨lo, ?_, h1, h3, h4, h5⟩
      simp only [arith_Sqrt.l0]
      rw [if_neg (by omega)]
theorem sqrt_f (n : Int) (h : n ≤ 9223372036854775807) : (n < 1 → arith_Sqrt.f 33 n = some 0) ∧ (1 ≤ n → ∃ r, arith_Sqrt.f 33 n = some r ∧ 1 ≤ r ∧ r ≤ 3037000499 ∧ r * r ≤ n ∧ n < (r + 1) * (r + 1)) := by
  unfold arith_Sqrt.f
  refine ⟨fun h0 => by rw [if_pos h0], fun h0 => ?_⟩
  rw [if_neg (by omega)]
  exact sqrt_loop n h0 h 32 1 3037000499 (by omega) (by omega) (by omega) (by omega) (by omega) (by decide)
theorem SqrtIsFloor : railplanlaw1_SqrtIsFloor.Pure := by
  intro a b ha hb
  have ha := bounds_i64 ha
  have hb := bounds_u8 hb
  refine ⟨33, ?_⟩
  have h50 : arith_Sqrt.f 33 50 = some 7 := by decide +kernel
  unfold railplanlaw1_SqrtIsFloor.f
  have hs : 0 ≤ Int.tmod b 63 := Int.tmod_nonneg _ hb.1
  have hn : -9223372036854775808 ≤ shr .i64 a (Int.tmod b 63) ∧ shr .i64 a (Int.tmod b 63) ≤ 9223372036854775807 := by
    unfold shr
    generalize min (Int.tmod b 63).toNat IntKind.i64.bits = y
    have hp : (0 : Int) < 2 ^ y := Int.pow_pos (by omega)
    generalize (2 : Int) ^ y = p at hp
    have h := Int.mul_ediv_add_emod a p
    have h5 := Int.emod_nonneg a (show p ≠ 0 by omega)
    have h6 := Int.emod_lt_of_pos a hp
    rcases Int.lt_or_le a 0 with h0 | h0
    · have hq : a / p < 0 := Int.ediv_neg_of_neg_of_pos h0 hp
      have h3 : (p - 1) * (a / p + 1) ≤ 0 := Int.mul_nonpos_of_nonneg_of_nonpos (by omega) (by omega)
      have h4 : (p - 1) * (a / p + 1) = p * (a / p) + p - a / p - 1 := by
        rw [Int.sub_mul, Int.mul_add]; omega
      omega
    · have := Int.ediv_le_self p h0
      have := Int.ediv_nonneg h0 (show 0 ≤ p by omega)
      omega
  generalize shr .i64 a (Int.tmod b 63) = n at hn
  rw [if_pos hs, h50]
  by_cases h1 : 1 ≤ n
  · obtain ⟨r, hr, h2, h3, h4, h5⟩ := (sqrt_f n hn.2).2 h1
    rw [hr]
    simp only [Option.bind_some]
    have hw : wrap64 (r * r) = r * r := by
      have : 0 ≤ r * r := Int.mul_nonneg (by omega) (by omega)
      unfold wrap64; omega
    rw [if_neg (by omega), if_pos (by omega), if_pos h3, hw, if_pos h4]
    split
    · rfl
    · have hw1 : wrap64 (r + 1) = r + 1 := by unfold wrap64; omega
      have h6 : (r + 1) * (r + 1) ≤ 3037000499 * 3037000499 := Int.mul_le_mul (by omega) (by omega) (by omega) (by omega)
      have hw2 : wrap64 ((r + 1) * (r + 1)) = (r + 1) * (r + 1) := by
        have : 0 ≤ (r + 1) * (r + 1) := Int.mul_nonneg (by omega) (by omega)
        unfold wrap64; omega
      rw [hw1, hw2, if_pos h5]
      rfl
  · rw [(sqrt_f n hn.2).1 (by omega)]
    simp only [Option.bind_some]
    by_cases h0 : n < 0
    · rw [if_pos h0]; rfl
    · have : n = 0 := by omega
      subst this
      decide +kernel

end Go.Proofs.Ytfgbkfgbgcfpbaa.Pure
