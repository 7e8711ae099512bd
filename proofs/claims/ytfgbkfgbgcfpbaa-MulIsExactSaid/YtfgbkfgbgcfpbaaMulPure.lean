/- Mul is the reference's product, for all 64-bit whole numbers and shifts. -/
import Derived.Test.YtfgbkfgbgcfpbaaMulx1
import Derived.OpenShut
namespace Go.Proofs.Ytfgbkfgbgcfpbaa.Pure
open Go.RowKit Go.Proofs.Ytfgbkfgbgcfpbaa.PMulIsExact Go.Proofs.YtfgbkfgbgcfpbaaW.PrintWords Go.Proofs.YtfgbkfgbgcfpbaaW.PrintLast

theorem uwrap (n : Int) : IntKind.u64.wrap n = n % 18446744073709551616 := by
  unfold IntKind.wrap
  simp only [IntKind.signed, IntKind.bits, Bool.false_and, Bool.false_eq_true, if_false]
  rfl
theorem and_mask (a : Int) (h0 : 0 ≤ a) (h1 : a < 18446744073709551616) : Go.bits .and .u64 a 4294967295 = a % 4294967296 := by
  have e : a = ((a.toNat : Nat) : Int) := by omega
  have ht : a.toNat < 2 ^ 64 := by omega
  have h2 : (BitVec.ofInt 64 a &&& BitVec.ofInt 64 4294967295).toNat = a.toNat % 4294967296 := by
    rw [BitVec.toNat_and]
    have e1 : (BitVec.ofInt 64 a).toNat = a.toNat := by
      rw [BitVec.toNat_ofInt]
      congr 1
      omega
    have e2 : (BitVec.ofInt 64 4294967295).toNat = 2 ^ 32 - 1 := by decide
    rw [e1, e2, Nat.and_two_pow_sub_one_eq_mod]
  show IntKind.u64.wrap (((BitVec.ofInt 64 a &&& BitVec.ofInt 64 4294967295).toNat : Nat) : Int) = _
  rw [h2, uwrap]
  omega
theorem mul64_f (x y : Int) (hx0 : 0 ≤ x) (hx1 : x ≤ 9223372036854775808) (hy0 : 0 ≤ y) (hy1 : y ≤ 9223372036854775808) :
    ∃ hi lo, bits_Mul64.f x y = some (hi, lo) ∧ hi * 18446744073709551616 + lo = x * y ∧ 0 ≤ lo ∧ lo < 18446744073709551616 ∧ 0 ≤ hi := by
  unfold bits_Mul64.f
  have hxy : 0 ≤ x * y := Int.mul_nonneg hx0 hy0
  rw [and_mask x hx0 (by omega), and_mask y hy0 (by omega)]
  have hX : x = x / 4294967296 * 4294967296 + x % 4294967296 := by omega
  have hY : y = y / 4294967296 * 4294967296 + y % 4294967296 := by omega
  generalize hxy' : x * y = p at hxy
  have bx1 : 0 ≤ x / 4294967296 ∧ x / 4294967296 ≤ 2147483648 := by omega
  have bx0 : 0 ≤ x % 4294967296 ∧ x % 4294967296 ≤ 4294967295 := by omega
  have by1 : 0 ≤ y / 4294967296 ∧ y / 4294967296 ≤ 2147483648 := by omega
  have by0 : 0 ≤ y % 4294967296 ∧ y % 4294967296 ≤ 4294967295 := by omega
  generalize x / 4294967296 = x1 at *
  generalize x % 4294967296 = x0 at *
  generalize y / 4294967296 = y1 at *
  generalize y % 4294967296 = y0 at *
  have hp : p = x1 * y1 * 18446744073709551616 + (x1 * y0 + x0 * y1) * 4294967296 + x0 * y0 := by
    rw [← hxy', hX, hY]; grind
  have b11 : 0 ≤ x1 * y1 ∧ x1 * y1 ≤ 2147483648 * 2147483648 := ⟨Int.mul_nonneg bx1.1 by1.1, Int.mul_le_mul bx1.2 by1.2 by1.1 (by omega)⟩
  have b10 : 0 ≤ x1 * y0 ∧ x1 * y0 ≤ 2147483648 * 4294967295 := ⟨Int.mul_nonneg bx1.1 by0.1, Int.mul_le_mul bx1.2 by0.2 by0.1 (by omega)⟩
  have b01 : 0 ≤ x0 * y1 ∧ x0 * y1 ≤ 4294967295 * 2147483648 := ⟨Int.mul_nonneg bx0.1 by1.1, Int.mul_le_mul bx0.2 by1.2 by1.1 (by omega)⟩
  have b00 : 0 ≤ x0 * y0 ∧ x0 * y0 ≤ 4294967295 * 4294967295 := ⟨Int.mul_nonneg bx0.1 by0.1, Int.mul_le_mul bx0.2 by0.2 by0.1 (by omega)⟩
  generalize x1 * y1 = p11 at *
  generalize x1 * y0 = p10 at *
  generalize x0 * y1 = p01 at *
  generalize x0 * y0 = p00 at *
  refine ⟨_, _, rfl, ?_, ?_, ?_, ?_⟩
  · have e1 : IntKind.u64.wrap p00 = p00 := by rw [uwrap]; omega
    have e2 : IntKind.u64.wrap p10 = p10 := by rw [uwrap]; omega
    have e3 : IntKind.u64.wrap p01 = p01 := by rw [uwrap]; omega
    have e4 : IntKind.u64.wrap p11 = p11 := by rw [uwrap]; omega
    rw [e1, e2, e3, e4]
    have e5 : IntKind.u64.wrap (p10 + p00 / 4294967296) = p10 + p00 / 4294967296 := by rw [uwrap]; omega
    rw [e5, and_mask _ (by omega) (by omega)]
    simp only [uwrap]
    omega
  · rw [uwrap]; omega
  · rw [uwrap]; omega
  · rw [uwrap]; omega
theorem size_f (a : Int) (ha : -9223372036854775808 ≤ a ∧ a ≤ 9223372036854775807) : arith_size.f a = some (a.natAbs : Int) := by
  unfold arith_size.f
  split
  · have : IntKind.u64.wrap (-IntKind.u64.wrap a) = (a.natAbs : Int) := by rw [uwrap, uwrap]; omega
    rw [this]
  · have : IntKind.u64.wrap a = (a.natAbs : Int) := by rw [uwrap]; omega
    rw [this]
/-- The product, or the refusal. -/
def prod (a b : Int) : Int × Int := if -9223372036854775808 ≤ a * b ∧ a * b ≤ 9223372036854775807 then (a * b, 0) else (0, 8)
theorem mul_f (k : Nat) (a b : Int) (ha : -9223372036854775808 ≤ a ∧ a ≤ 9223372036854775807) (hb : -9223372036854775808 ≤ b ∧ b ≤ 9223372036854775807) : arith_Mul.f (k + 2) a b = some (prod a b) := by
  unfold arith_Mul.f
  rw [size_f a ha, size_f b hb]
  simp only [Option.bind_some]
  obtain ⟨hi, lo, h, hp, hl0, hl1, hh⟩ := mul64_f a.natAbs b.natAbs (by omega) (by omega) (by omega) (by omega)
  rw [h]
  simp only [Option.bind_some]
  have hab : ((a.natAbs : Int) * (b.natAbs : Int)) = ((a * b).natAbs : Int) := by rw [Int.natAbs_mul]; simp
  rw [hab] at hp
  have hsign : (((decide (a < 0)) != (decide (b < 0))) = true ∧ a * b ≤ 0) ∨ (((decide (a < 0)) != (decide (b < 0))) = false ∧ 0 ≤ a * b) := by
    by_cases h1 : a < 0
    · by_cases h2 : b < 0
      · right; exact ⟨by simp [h1, h2], Int.mul_nonneg_of_nonpos_of_nonpos (by omega) (by omega)⟩
      · left; exact ⟨by simp [h1, h2], Int.mul_nonpos_of_nonpos_of_nonneg (by omega) (by omega)⟩
    · by_cases h2 : b < 0
      · left; exact ⟨by simp [h1, h2], Int.mul_nonpos_of_nonneg_of_nonpos (by omega) (by omega)⟩
      · right; exact ⟨by simp [h1, h2], Int.mul_nonneg (by omega) (by omega)⟩
  unfold prod
  generalize a * b = p at *
  rcases hsign with ⟨hs, hp0⟩ | ⟨hs, hp0⟩
  · rw [hs]
    simp only [if_true]
    simp only [arith_Mul.j0]
    split
    · simp only [arith_Mul.j1, if_true]
      rw [if_neg (by omega)]
    · by_cases hbig : lo > 9223372036854775807 + 1
      · rw [decide_eq_true hbig]
        simp only [arith_Mul.j1, if_true]
        rw [if_neg (by omega)]
      · rw [decide_eq_false hbig]
        simp only [arith_Mul.j1, if_true, Bool.false_eq_true, if_false]
        rw [if_pos (by omega)]
        have : wrap64 (IntKind.u64.wrap (-lo)) = p := by rw [uwrap]; unfold wrap64; omega
        rw [this]
  · rw [hs]
    simp only [Bool.false_eq_true, if_false]
    simp only [arith_Mul.j0]
    split
    · simp only [arith_Mul.j1, if_true]
      rw [if_neg (by omega)]
    · by_cases hbig : lo > 9223372036854775807
      · rw [decide_eq_true hbig]
        simp only [arith_Mul.j1, if_true]
        rw [if_neg (by omega)]
      · rw [decide_eq_false hbig]
        simp only [arith_Mul.j1, Bool.false_eq_true, if_false]
        rw [if_pos (by omega)]
        have : wrap64 lo = p := by unfold wrap64; omega
        rw [this]
theorem rmul_core (a b : Int) (ha : -9223372036854775808 ≤ a ∧ a ≤ 9223372036854775807) (hb : -9223372036854775808 ≤ b ∧ b ≤ 9223372036854775807) (hb0 : b ≠ 0) (hx : ¬ (b = -1 ∧ a = -9223372036854775808)) :
    (if (wrap64 (Int.tdiv (wrap64 (a * b)) b)) = a then some (wrap64 (a * b), (0 : Int)) else some ((0 : Int), (8 : Int))) = some (prod a b) := by
  unfold prod
  by_cases hin : -9223372036854775808 ≤ a * b ∧ a * b ≤ 9223372036854775807
  · have hw : wrap64 (a * b) = a * b := by unfold wrap64; omega
    have ht : Int.tdiv (a * b) b = a := Int.mul_tdiv_cancel a hb0
    have hw2 : wrap64 a = a := by unfold wrap64; omega
    rw [hw, ht, hw2, if_pos rfl, if_pos hin]
  · rw [if_neg hin, if_neg]
    intro he
    generalize hc : wrap64 (a * b) = c at he
    have hcr : -9223372036854775808 ≤ c ∧ c ≤ 9223372036854775807 := by rw [← hc]; unfold wrap64; omega
    have hmt := Int.mul_tdiv_add_tmod c b
    have hq : (c.tdiv b).natAbs ≤ c.natAbs := Int.natAbs_tdiv_le_natAbs c b
    have hr : (c.tmod b).natAbs < b.natAbs := by
      have h1 := Int.natAbs_tmod c b
      rw [h1]
      exact Nat.mod_lt _ (by omega)
    have hqa : c.tdiv b = a := by
      have : wrap64 (c.tdiv b) = c.tdiv b ∨ c.tdiv b = 9223372036854775808 := by unfold wrap64; omega
      rcases this with h | h
      · rw [← h]; exact he
      · exfalso
        rw [h] at he
        have ea : a = -9223372036854775808 := by rw [← he]; decide +kernel
        have : b = -1 := by
          rw [h] at hmt
          omega
        exact hx ⟨this, ea⟩
    rw [hqa, Int.mul_comm] at hmt
    generalize a * b = p at *
    have : c = (p + 9223372036854775808) % 18446744073709551616 - 9223372036854775808 := by rw [← hc]; unfold wrap64; rfl
    omega
theorem rmul_f (k : Nat) (a b : Int) (ha : -9223372036854775808 ≤ a ∧ a ≤ 9223372036854775807) (hb : -9223372036854775808 ≤ b ∧ b ≤ 9223372036854775807) : railplanref1_Mul.f (k + 2) a b = some (prod a b) := by
  unfold railplanref1_Mul.f
  split
  · rename_i h
    subst h
    simp only [railplanref1_Mul.j0, if_true]
    unfold prod; simp
  · rename_i h0
    by_cases hb0 : b = 0
    · subst hb0
      simp only [railplanref1_Mul.j0]
      unfold prod; simp
    · rw [show (b == 0) = false by rw [beq_eq_false_iff_ne]; exact hb0]
      have over : ∀ x y : Int, x * y = 9223372036854775808 → some ((0 : Int), (8 : Int)) = some (prod x y) := by
        intro x y h; unfold prod; rw [h, if_neg (by omega)]
      have last : ¬ (b = -1 ∧ a = -9223372036854775808) → railplanref1_Mul.j1 (k + 1) a b false = some (prod a b) := by
        intro hx
        simp only [railplanref1_Mul.j1]
        rw [if_neg (by simp), if_neg hb0]
        exact rmul_core a b ha hb hb0 hx
      simp only [railplanref1_Mul.j0]
      rw [if_neg (by simp)]
      split
      · rename_i h1
        split
        · rename_i h2
          simp only [railplanref1_Mul.j1, if_true]
          exact over a b (by rw [h1, h2]; rfl)
        · split
          · rw [show (a == -9223372036854775808) = false by rw [beq_eq_false_iff_ne]; omega]
            exact last (by omega)
          · exact last (by omega)
      · split
        · rename_i h2
          by_cases h3 : a = -9223372036854775808
          · rw [show (a == -9223372036854775808) = true by rw [h3]; rfl]
            simp only [railplanref1_Mul.j1, if_true]
            exact over a b (by rw [h2, h3]; rfl)
          · rw [show (a == -9223372036854775808) = false by rw [beq_eq_false_iff_ne]; exact h3]
            exact last (by omega)
        · exact last (by omega)
theorem MulIsExact : railplanlaw1_MulIsExact.Pure := by
  intro a b c ha hb hc
  have ha := bounds_i64 ha
  have hb := bounds_i64 hb
  have hc := bounds_u8 hc
  refine ⟨0 + 2, ?_⟩
  unfold railplanlaw1_MulIsExact.f
  have hn : -9223372036854775808 ≤ shr .i64 b (Int.tmod c 64) ∧ shr .i64 b (Int.tmod c 64) ≤ 9223372036854775807 := by
    unfold shr
    generalize min (Int.tmod c 64).toNat IntKind.i64.bits = y
    have hp : (0 : Int) < 2 ^ y := Int.pow_pos (by omega)
    generalize (2 : Int) ^ y = p at hp
    have h := Int.mul_ediv_add_emod b p
    have h5 := Int.emod_nonneg b (show p ≠ 0 by omega)
    have h6 := Int.emod_lt_of_pos b hp
    rcases Int.lt_or_le b 0 with h0 | h0
    · have hq : b / p < 0 := Int.ediv_neg_of_neg_of_pos h0 hp
      have h3 : (p - 1) * (b / p + 1) ≤ 0 := Int.mul_nonpos_of_nonneg_of_nonpos (by omega) (by omega)
      have h4 : (p - 1) * (b / p + 1) = p * (b / p) + p - b / p - 1 := by
        rw [Int.sub_mul, Int.mul_add]; omega
      omega
    · have := Int.ediv_le_self p h0
      have := Int.ediv_nonneg h0 (show 0 ≤ p by omega)
      omega
  generalize shr .i64 b (Int.tmod c 64) = n at hn
  rw [if_pos (Int.tmod_nonneg _ hc.1), mul_f 0 a n ha hn, rmul_f 0 a n ha hn, mul_f 0 3 4 (by omega) (by omega)]
  simp [prod]

end Go.Proofs.Ytfgbkfgbgcfpbaa.Pure
