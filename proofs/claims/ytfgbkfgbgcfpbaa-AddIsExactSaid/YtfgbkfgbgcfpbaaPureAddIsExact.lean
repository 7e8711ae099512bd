/- What Add and its reference answer is the same, and Add(3, 4) is 7, for all 64-bit whole numbers. -/
import Derived.Test.YtfgbkfgbgcfpbaaPAddIsExactx1
import Derived.OpenShut
namespace Go.Proofs.Ytfgbkfgbgcfpbaa.Pure
open Go.RowKit Go.Proofs.Ytfgbkfgbgcfpbaa.PAddIsExact Go.Proofs.YtfgbkfgbgcfpbaaW.PrintWords Go.Proofs.YtfgbkfgbgcfpbaaW.PrintLast

theorem AddIsExact : railplanlaw1_AddIsExact.Pure := by
  intro a b _ _
  have e : railplanref1_Add.f a b = arith_Add.f a b := rfl
  obtain ⟨r, hr⟩ : ∃ r, arith_Add.f a b = some r := by
    unfold arith_Add.f
    split
    · split
      · exact ⟨_, rfl⟩
      · split
        · split <;> exact ⟨_, rfl⟩
        · exact ⟨_, rfl⟩
    · split
      · split <;> exact ⟨_, rfl⟩
      · exact ⟨_, rfl⟩
  have h34 : arith_Add.f 3 4 = some (7, 0) := by decide +kernel
  unfold railplanlaw1_AddIsExact.f
  rw [e, hr, h34]
  simp

end Go.Proofs.Ytfgbkfgbgcfpbaa.Pure
