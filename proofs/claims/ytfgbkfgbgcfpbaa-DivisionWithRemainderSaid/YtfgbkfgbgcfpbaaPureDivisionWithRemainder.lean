/- FloorDiv and Mod take a number apart and put it together again, for all 64-bit whole numbers that the statement lets in. -/
import Derived.Test.YtfgbkfgbgcfpbaaPDivisionWithRemainderx1
import Derived.OpenShut
namespace Go.Proofs.Ytfgbkfgbgcfpbaa.Pure
open Go.RowKit Go.Proofs.Ytfgbkfgbgcfpbaa.PDivisionWithRemainder Go.Proofs.YtfgbkfgbgcfpbaaW.PrintWords Go.Proofs.YtfgbkfgbgcfpbaaW.PrintLast

theorem ediv_range (a b : Int) (hb : 1 ≤ b) : (0 ≤ a → 0 ≤ a / b ∧ a / b ≤ a) ∧ (a < 0 → a ≤ a / b ∧ a / b < 0) := by
  have h := Int.mul_ediv_add_emod a b
  have h1 := Int.emod_nonneg a (show b ≠ 0 by omega)
  have h2 := Int.emod_lt_of_pos a (show 0 < b by omega)
  refine ⟨fun h0 => ?_, fun h0 => ?_⟩
  · have hq : 0 ≤ a / b := Int.ediv_nonneg h0 (by omega)
    refine ⟨hq, ?_⟩
    have : a / b ≤ b * (a / b) := by
      have := Int.mul_le_mul_of_nonneg_right hb hq
      omega
    omega
  · have hq : a / b < 0 := Int.ediv_neg_of_neg_of_pos h0 (by omega)
    refine ⟨?_, hq⟩
    have h3 : (b - 1) * (a / b + 1) ≤ 0 := Int.mul_nonpos_of_nonneg_of_nonpos (by omega) (by omega)
    have h4 : (b - 1) * (a / b + 1) = b * (a / b) + b - a / b - 1 := by
      rw [Int.sub_mul, Int.mul_add]; omega
    omega
theorem tdiv_floor (a b : Int) (hb : 1 ≤ b) : Int.tdiv a b = if Int.tmod a b < 0 then a / b + 1 else a / b := by
  have h1 := Int.mul_tdiv_add_tmod a b
  have h2 := Int.mul_ediv_add_emod a b
  have h3 := Int.tmod_eq_emod (a := a) (b := b)
  have h4 := Int.tdiv_eq_ediv (a := a) (b := b)
  have h5 := Int.emod_nonneg a (show b ≠ 0 by omega)
  have h6 := Int.emod_lt_of_pos a (show 0 < b by omega)
  have hs : b.sign = 1 := Int.sign_eq_one_of_pos (by omega)
  rw [hs] at h4
  split at h3
  · rename_i h
    rw [if_pos h] at h4
    rw [if_neg (by omega)]
    omega
  · rename_i h
    rw [if_neg h] at h4
    rw [if_pos (by omega)]
    omega
theorem tmod_floor (a b : Int) (hb : 1 ≤ b) : (Int.tmod a b < 0 ∧ Int.tmod a b = a % b - b ∧ 0 < a % b) ∨ (0 ≤ Int.tmod a b ∧ Int.tmod a b = a % b) := by
  have h3 := Int.tmod_eq_emod (a := a) (b := b)
  have h5 := Int.emod_nonneg a (show b ≠ 0 by omega)
  have h6 := Int.emod_lt_of_pos a (show 0 < b by omega)
  split at h3
  · exact .inr ⟨by omega, by omega⟩
  · rename_i h
    refine .inl ⟨by omega, by omega, ?_⟩
    have : a % b ≠ 0 := fun e => h (.inr (Int.dvd_of_emod_eq_zero e))
    omega
theorem tmod_ceil (a b : Int) (hb : 1 ≤ b) : (0 < Int.tmod a b ∧ 0 < a ∧ 0 < a % b ∧ a / b < a ∨ Int.tmod a b = 0 ∧ a % b = 0 ∨ Int.tmod a b < 0 ∧ a < 0 ∧ 0 < a % b) := by
  have h := Int.mul_ediv_add_emod a b
  have h3 := Int.tmod_eq_emod (a := a) (b := b)
  have h5 := Int.emod_nonneg a (show b ≠ 0 by omega)
  have h6 := Int.emod_lt_of_pos a (show 0 < b by omega)
  have hr := ediv_range a b hb
  have key : 0 < a → 0 < a % b → a / b ≠ a := by
    intro ha hp he
    rw [he] at h
    have h7 : (b - 1) * a = b * a - a := by rw [Int.sub_mul]; omega
    have hb2 : 2 ≤ b := by omega
    have := Int.mul_le_mul_of_nonneg_right (show 1 ≤ b - 1 by omega) (show 0 ≤ a by omega)
    omega
  rcases Int.lt_trichotomy (a % b) 0 with hz | hz | hz
  · omega
  · right; left
    refine ⟨?_, hz⟩
    rw [h3, if_pos (.inr (Int.dvd_of_emod_eq_zero hz))]
    omega
  · by_cases h0 : 0 ≤ a
    · left
      rw [if_pos (.inl h0)] at h3
      have := hr.1 h0
      have : a ≠ 0 := fun e => by subst e; simp at hz
      have k := key (by omega) hz
      exact ⟨by omega, by omega, hz, by omega⟩
    · right; right
      have hd : ¬ (0 ≤ a ∨ b ∣ a) := by
        intro h; rcases h with h | h
        · exact h0 h
        · have := Int.emod_eq_zero_of_dvd h; omega
      rw [if_neg hd] at h3
      exact ⟨by omega, by omega, hz⟩

theorem floor_f (a b : Int) (hb : 1 ≤ b) (ha : -9223372036854775808 ≤ a ∧ a ≤ 9223372036854775807) : arith_FloorDiv.f a b = some (a / b, 0) := by
  have h1 := tdiv_floor a b hb
  have h2 := tmod_ceil a b hb
  have h3 := ediv_range a b hb
  unfold arith_FloorDiv.f
  rw [if_neg (by omega), if_neg (by omega)]
  split
  · rename_i h
    rw [if_pos h] at h1
    have : wrap64 (wrap64 (Int.tdiv a b) - 1) = a / b := by
      rw [h1]; unfold wrap64; omega
    rw [this]
  · rename_i h
    rw [if_neg h] at h1
    have : wrap64 (Int.tdiv a b) = a / b := by
      rw [h1]; unfold wrap64; omega
    rw [this]

theorem mod_f (a b : Int) (hb : 1 ≤ b) (hb2 : b ≤ 9223372036854775807) : arith_Mod.f a b = some (a % b) := by
  have h := tmod_floor a b hb
  have h6 := Int.emod_lt_of_pos a (show 0 < b by omega)
  unfold arith_Mod.f
  rw [if_neg (by omega), if_neg (by omega)]
  split
  · have : wrap64 (Int.tmod a b + b) = a % b := by unfold wrap64; omega
    rw [this]
  · have : Int.tmod a b = a % b := by omega
    rw [this]
theorem mod_seven : arith_Mod.f 7 4 = some 3 := by decide +kernel

theorem DivisionWithRemainder : railplanlaw1_DivisionWithRemainder.Pure := by
  intro a b ha hb
  have ha := bounds_i64 ha
  have hb := bounds_i64 hb
  refine ⟨1, ?_⟩
  unfold railplanlaw1_DivisionWithRemainder.f
  split
  · simp only [railplanlaw1_DivisionWithRemainder.j0]
    rw [if_pos trivial, mod_seven]; rfl
  · rename_i h
    by_cases h2 : a < -4611686018427387904
    · rw [decide_eq_true h2]
      simp only [railplanlaw1_DivisionWithRemainder.j0]
      rw [if_pos trivial, mod_seven]; rfl
    · rw [decide_eq_false h2]
      simp only [railplanlaw1_DivisionWithRemainder.j0]
      have h5 := Int.emod_nonneg a (show b ≠ 0 by omega)
      have h6 := Int.emod_lt_of_pos a (show 0 < b by omega)
      have h7 := Int.mul_ediv_add_emod a b
      rw [Int.mul_comm] at h7
      rw [if_neg (by simp), floor_f a b (by omega) (by omega), mod_f a b (by omega) (by omega), mod_seven]
      simp only [Option.bind_some]
      have hw : wrap64 (wrap64 (a / b * b) + a % b) = a := by unfold wrap64; omega
      rw [hw]
      simp

end Go.Proofs.Ytfgbkfgbgcfpbaa.Pure
