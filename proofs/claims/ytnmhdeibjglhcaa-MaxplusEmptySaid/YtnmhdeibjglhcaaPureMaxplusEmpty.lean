/- Refused matrices: three closed cases. -/
import Derived.Test.YtnmhdeibjglhcaaXAllx23
import Derived.Test.YtnmhdeibjglhcaaMpMath
import Derived.OpenShut
set_option linter.unusedVariables false
set_option linter.unusedSimpArgs false
set_option linter.unusedSectionVars false
namespace Go.Proofs.Ytnmhdeibjglhcaa.Pure
open Go.RowKit Go.Proofs.Ytnmhdeibjglhcaa.XAll Go.Proofs.YtnmhdeibjglhcaaW.PrintWords Go.Proofs.YtnmhdeibjglhcaaW.PrintLast Go.Proofs.YtnmhdeibjglhcaaW.PrintMore Go.Proofs.Ytnmhdeibjglhcaa.MpMath

/-- Not by sight: the kernel is not to look into what is bound. -/
theorem obind {α β : Type} (a : α) (f : α → Option β) : (some a).bind f = f a := by cases h : f a <;> simp [h]
theorem wr {x : Int} (h1 : -9223372036854775808 ≤ x) (h2 : x ≤ 9223372036854775807) : wrap64 x = x := by unfold wrap64; omega
theorem Ev_succ {α : Type} {g : Nat → Option α} {r : α} (h : Ev (fun k => g (k + 1)) r) : Ev g r := Ev.step (fun _ => rfl) h
theorem mn_eq (a b : Int) : mn a b = min a b := by unfold mn; omega
theorem mx_eq (a b : Int) : mx a b = max a b := by unfold mx; omega
theorem rd_tab (n : Nat) (f : Nat → Int) (i : Int) (h0 : 0 ≤ i) (h : i < n) : rd (tab n f) i = f i.toNat := by
  unfold rd; exact getD_tab n f 0 i.toNat (by omega)
theorem uwrap (n : Int) : IntKind.u64.wrap n = n % 18446744073709551616 := by
  unfold IntKind.wrap
  simp only [IntKind.signed, IntKind.bits, Bool.false_and, Bool.false_eq_true, if_false]
  rfl

theorem pick_f (a n : Int) (h1 : 1 ≤ n) (h2 : n ≤ 9223372036854775807) : ∃ r, railplankeep_Pick.f a n = some r ∧ 0 ≤ r ∧ r < n := by
  unfold railplankeep_Pick.f
  have e : IntKind.u64.wrap n = n := by rw [uwrap]; omega
  have h0 : 0 ≤ IntKind.u64.wrap a := by rw [uwrap]; omega
  rw [e, if_neg (by omega)]
  have h3 := Int.tmod_eq_emod_of_nonneg (b := n) h0
  have h4 := Int.emod_nonneg (IntKind.u64.wrap a) (show n ≠ 0 by omega)
  have h5 := Int.emod_lt_of_pos (IntKind.u64.wrap a) (show 0 < n by omega)
  exact ⟨_, rfl, by rw [h3, wr (by omega) (by omega)]; exact h4, by rw [h3, wr (by omega) (by omega)]; exact h5⟩

theorem MaxplusEmpty : railplanlaw33_MaxplusEmpty.Pure := by
  intro a0 _
  obtain ⟨p, hp, p0, p1⟩ := pick_f a0 3 (by omega) (by omega)
  refine ⟨400, ?_⟩
  unfold railplanlaw33_MaxplusEmpty.f
  rw [hp, obind]
  have h : p = 0 ∨ p = 1 ∨ p = 2 := by omega
  rcases h with rfl | rfl | rfl <;> decide +kernel
end Go.Proofs.Ytnmhdeibjglhcaa.Pure
