/- Gcd divides both numbers, equals the reference's, does not change when a multiple is added, and refuses negative numbers; for all 64-bit whole numbers. -/
import Derived.Test.YtfgbkfgbgcfpbaaPGcdDividesx1
import Derived.OpenShut
namespace Go.Proofs.Ytfgbkfgbgcfpbaa.Pure
open Go.RowKit Go.Proofs.Ytfgbkfgbgcfpbaa.PGcdDivides Go.Proofs.YtfgbkfgbgcfpbaaW.PrintWords Go.Proofs.YtfgbkfgbgcfpbaaW.PrintLast

theorem gcd_loop : ∀ (k : Nat) (a b : Int), 0 ≤ a → 0 ≤ b → b < k → arith_Gcd.l0 k a b = some ((Int.gcd a b : Int), 0) := by
  intro k
  induction k with
  | zero => intro a b _ _ h; omega
  | succ k ih =>
    intro a b ha hb h
    simp only [arith_Gcd.l0]
    split
    · rename_i h0
      rw [if_neg (by omega)]
      have ht : Int.tmod a b = a % b := Int.tmod_eq_emod_of_nonneg ha
      have h5 := Int.emod_nonneg a (show b ≠ 0 by omega)
      have h6 := Int.emod_lt_of_pos a (show 0 < b by omega)
      rw [ht, ih b (a % b) hb h5 (by omega)]
      have hg : Int.gcd b (a % b) = Int.gcd a b := by
        have e : a % b = a + b * -(a / b) := by
          have := Int.mul_ediv_add_emod a b
          rw [Int.mul_neg]; omega
        rw [e, Int.gcd_add_mul_left_right, Int.gcd_comm]
      rw [hg]
    · have : b = 0 := by omega
      subst this
      simp only [Int.gcd_zero]
      rw [show (a.natAbs : Int) = a by omega]
theorem gcd_f (k : Nat) (a b : Int) (ha : 0 ≤ a) (hb : 0 ≤ b) (h : b < k) : arith_Gcd.f (k + 1) a b = some ((Int.gcd a b : Int), 0) := by
  unfold arith_Gcd.f
  rw [if_neg (by omega), decide_eq_false (by omega)]
  simp only [arith_Gcd.j0]
  rw [if_neg (by simp)]
  exact gcd_loop k a b ha hb h
theorem gcd_same_l (k : Nat) : ∀ a b, railplanref1_Gcd.l0 k a b = arith_Gcd.l0 k a b := by
  induction k with
  | zero => intro a b; rfl
  | succ k ih => intro a b; simp only [railplanref1_Gcd.l0, arith_Gcd.l0, ih]
theorem gcd_same (k : Nat) (a b : Int) : railplanref1_Gcd.f k a b = arith_Gcd.f k a b := by
  unfold railplanref1_Gcd.f arith_Gcd.f
  cases k with
  | zero => rfl
  | succ k => simp only [railplanref1_Gcd.j0, arith_Gcd.j0, gcd_same_l]
theorem gcd_neg (k : Nat) (a b : Int) (h : a < 0 ∨ b < 0) : arith_Gcd.f (k + 1) a b = some (0, 1) := by
  unfold arith_Gcd.f
  rcases h with h | h
  · rw [if_pos h]; rfl
  · rw [decide_eq_true h, ite_self]; rfl
theorem tmod_dvd (a g : Int) (h : g ∣ a) : Int.tmod a g = 0 := Int.tmod_eq_zero_of_dvd h
theorem gcd_add (a b c : Int) : Int.gcd (a + c * b) b = Int.gcd a b := by
  rw [Int.mul_comm, Int.gcd_comm, Int.gcd_add_mul_left_right, Int.gcd_comm]
theorem gcd_law (m : Nat) (hm : 9223372036854775807 < m) (a b c : Int) (ha : -9223372036854775808 ≤ a ∧ a ≤ 9223372036854775807) (hb : -9223372036854775808 ≤ b ∧ b ≤ 9223372036854775807) (hc : 0 ≤ c ∧ c ≤ 255) : railplanlaw1_GcdDivides.f (m + 1 + 1 + 1) a b c = some true := by
  unfold railplanlaw1_GcdDivides.f
  by_cases hn : a < 0 ∨ b < 0
  · rw [gcd_neg _ a b hn]
    simp only [Option.bind_some]
    rcases hn with h | h
    · rw [if_pos h]; rfl
    · rw [decide_eq_true h, ite_self]; rfl
  · have ha0 : ¬ a < 0 := fun h => hn (.inl h)
    have hb0 : ¬ b < 0 := fun h => hn (.inr h)
    rw [gcd_f _ a b (by omega) (by omega) (by omega)]
    simp only [Option.bind_some]
    rw [if_neg ha0, decide_eq_false hb0]
    simp only [railplanlaw1_GcdDivides.j0]
    rw [if_neg (by simp), gcd_same, gcd_f _ a b (by omega) (by omega) (by omega)]
    simp only [Option.bind_some, if_true]
    generalize hg : (Int.gcd a b : Int) = g
    have hg0 : 0 ≤ g := by omega
    have hda : g ∣ a := by rw [← hg]; exact Int.gcd_dvd_left a b
    have hdb : g ∣ b := by rw [← hg]; exact Int.gcd_dvd_right a b
    have tail : railplanlaw1_GcdDivides.j1 (m + 1 + 1) a b c g false = some true := by
      simp only [railplanlaw1_GcdDivides.j1]
      rw [if_neg (by simp)]
      split
      · rfl
      · split
        · rfl
        · have h7 : c * b ≤ 255 * b := Int.mul_le_mul_of_nonneg_right hc.2 (by omega)
          have h8 : 0 * b ≤ c * b := Int.mul_le_mul_of_nonneg_right hc.1 (by omega)
          have hw : wrap64 (a + wrap64 (wrap64 c * b)) = a + c * b := by
            have : wrap64 c = c := by unfold wrap64; omega
            rw [this]
            unfold wrap64; omega
          rw [hw, gcd_f _ (a + c * b) b (by omega) (by omega) (by omega), gcd_add, hg]
          simp
    rw [if_neg (by omega)]
    split
    · rename_i h0
      have hz := h0
      rw [h0] at hda hdb
      have ea : a = 0 := Int.zero_dvd.1 hda
      have eb : b = 0 := Int.zero_dvd.1 hdb
      rw [if_pos ea, if_pos eb, if_neg (by omega)]
      exact tail
    · rename_i h0
      rw [if_pos (by omega), if_pos (tmod_dvd a g hda), tmod_dvd b g hdb]
      exact tail
theorem GcdDivides : railplanlaw1_GcdDivides.Pure := by
  intro a b c ha hb hc
  exact ⟨9223372036854775808 + 1 + 1 + 1, gcd_law _ (by omega) a b c (bounds_i64 ha) (bounds_i64 hb) (bounds_u8 hc)⟩

end Go.Proofs.Ytfgbkfgbgcfpbaa.Pure
