/- Plain lemmas on networks: what the makers make, what the reference's tests answer. -/
import Derived.Test.YtpioelilfhkfdaaXAllx18
import Derived.Test.YtpioelilfhkfdaaXAllx8
import Derived.Test.YtpioelilfhkfdaaXAllx9
set_option linter.unusedVariables false
set_option linter.unusedSimpArgs false
namespace Go.Proofs.Ytpioelilfhkfdaa.NetMath
open Go.RowKit Go.Proofs.Ytpioelilfhkfdaa.XAll Go.Proofs.YtpioelilfhkfdaaW.PrintWords Go.Proofs.YtpioelilfhkfdaaW.PrintLast Go.Proofs.YtpioelilfhkfdaaW.PrintMore
theorem rd36g (l : List S62) (i : Nat) (h : i < l.length) : rd_T62 l (i : Int) = l[i] := by
  unfold rd_T62
  rw [Int.toNat_natCast, List.getD_eq_getElem?_getD, List.getElem?_eq_getElem h]
  rfl
theorem wrapI (a : Int) (h : -9000000000000000000 ≤ a) (h' : a ≤ 9000000000000000000) : wrap64 a = a := by unfold wrap64; omega
theorem u64_wrap_pos (a : Int) (h : 0 ≤ a) (h' : a ≤ 9000000000000000000) : IntKind.u64.wrap a = a := by
  simp only [IntKind.wrap]
  simp [IntKind.signed, IntKind.bits]
  omega
theorem u64_wrap_rng (a : Int) : 0 ≤ IntKind.u64.wrap a ∧ IntKind.u64.wrap a < 18446744073709551616 := by
  simp only [IntKind.wrap]
  simp [IntKind.signed, IntKind.bits]
  omega
theorem pick_spec (v n : Int) (h : 1 ≤ n) (h' : n ≤ 1000000000) : ∃ r, railplankeep_Pick.f v n = some r ∧ 0 ≤ r ∧ r < n := by
  unfold railplankeep_Pick.f
  rw [u64_wrap_pos n (by omega) (by omega), if_neg (by omega)]
  obtain ⟨h1, h2⟩ := u64_wrap_rng v
  generalize IntKind.u64.wrap v = x at *
  have e := Int.tmod_eq_emod_of_nonneg (b := n) h1
  have h3 := Int.emod_nonneg x (show n ≠ 0 by omega)
  have h4 := Int.emod_lt_of_pos x (show 0 < n by omega)
  exact ⟨_, rfl, by rw [e, wrapI _ (by omega) (by omega)]; exact h3, by rw [e, wrapI _ (by omega) (by omega)]; exact h4⟩
theorem obind {α β : Type} (a : α) (f : α → Option β) : (some a).bind f = f a := by cases h : f a <;> simp [h]
end Go.Proofs.Ytpioelilfhkfdaa.NetMath
